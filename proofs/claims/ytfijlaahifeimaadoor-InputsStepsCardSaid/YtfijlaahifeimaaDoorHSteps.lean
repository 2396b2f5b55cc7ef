/- inputs: InputsSteps' walk. -/
import Derived.Test.YtfijlaahifeimaaDoorML
import Derived.Deep.DeepCutAuto
namespace Go.Proofs.YtfijlaahifeimaaDoor.PE
open Go.RowKit Go.Extern.Stop Go.Stop Go.Extern Go.Proofs.YtfijlaahifeimaaDoorW.PrintWords Go.Proofs.YtfijlaahifeimaaDoorW.PrintLast Go.Proofs.YtfijlaahifeimaaDoorW.PrintMore Go.Proofs.YtfijlaahifeimaaDoor.PS
set_option linter.unusedVariables false
set_option linter.unusedSimpArgs false
set_option maxHeartbeats 16000000 in
set_option maxRecDepth 100000 in
theorem isteps_calls0 (t f : Int) (A : Option Addr) (c : Nat) (l : List (List (List Int))) (w : World) (hC : Kd.C (Kd.slice 44 (Kd.slice 5 (Kd.int .u8))) w A l.length l) (hcc : l.length ≤ c) (hs : Small3 l) (hg : Gerr w) : Calls Tryd.prog 3 #[.int .i64 t, .int .i64 f, .slice A l.length c] w fun e w' => e = .returned (.bool true) ∧ Below w.heap.size w w' := by
  have HC := Aside0.mk hC
  have HCC := Aside0.mk hcc
  have HS3 := Aside0.mk hs
  have HG := Aside0.mk hg
  clear hC hcc hs hg
  go_enter Tryd.func3, Tryd.ntmps3
  go_wp2_with fail
  refine (small_calls w HG.out).mono ?_
  rintro e w1 ⟨rfl, hb⟩
  have B1 := Aside0.mk hb
  clear hb
  go_wp2_with fail
  refine (Few_calls A c l w1 (Kd.C_below HC.out B1.out) HCC.out HS3.out).mono ?_
  rintro e w2 ⟨r, rfl, hr, hb⟩
  have B2 := Aside0.mk (below_thenB B1.out hb B1.out.size)
  have HR := Aside0.mk hr
  clear hb hr
  go_wp2_with fail
  refine (INew_calls t f w2).mono ?_
  rintro e w3 ⟨x, gx, rfl, hI, hx, hgx, hb⟩
  have B3 := Aside0.mk (below_thenB B2.out hb B2.out.size)
  have HW := Aside0.mk (show w.heap.size ≤ x ∧ w.heap.size ≤ gx from ⟨Nat.le_trans B2.out.size hx, Nat.le_trans B2.out.size hgx⟩)
  have HF := Aside0.mk (F_is f)
  have I3 : Aside0 (IK w3 x gx (max 1 (min f 6000)) 0 (trk t) (fun _ => Ch.zero)) := ⟨hI⟩
  have HT := Aside0.mk (trk_is t)
  generalize hFF : max 1 (min f 6000) = F at HF I3
  have HFF := Aside0.mk hFF
  clear hb hx hgx hI hFF B1 B2
  cases r with
  | false =>
    go_wp2_with fail
    go_ret
    exact ⟨rfl, B3.out⟩
  | true =>
    have HL := Aside0.mk (HR.out rfl)
    clear HR
    go_wp2_with fail
    refine (RINew_calls t f w3).mono ?_
    rintro e w4 ⟨y, gy, rfl, hI, hy, hgy, hb⟩
    rw [HFF.out] at hI
    have R4 : Aside0 (RIK w4 y gy F (trk t) (fun _ => LinkV.zero)) := ⟨hI⟩
    have I4 := Aside0.mk (I3.out.below hb)
    have B4 := Aside0.mk (below_thenB B3.out hb B3.out.size)
    have HV := Aside0.mk (show w.heap.size ≤ y ∧ w.heap.size ≤ gy from ⟨Nat.le_trans B3.out.size hy, Nat.le_trans B3.out.size hgy⟩)
    clear hI hy hgy hb I3 B3 HFF
    go_wp2_with fail
    go_loopw [11] (fun i W => ∃ (k : Nat) (S : Nat → Ch) (R : Nat → LinkV), k ≤ l.length ∧ i = .int .i64 k ∧ Aside0 (IK W x gx F k (trk t) S) ∧ Aside0 (RIK W y gy F (trk t) R) ∧ Aside0 (Rel F k S R) ∧ Aside0 (Below w.heap.size w W)) (fun i _ => l.length - (intOf i).toNat)
    case atStart => exact ⟨0, _, _, by omega, rfl, I4, R4, ⟨rel_zero F⟩, B4⟩
    case round =>
      obtain ⟨k, S, R, hk, rfl, IR, RR, RE, BR⟩ := hrel
      by_cases hlt : k < l.length
      · have dk : decide (k < l.length) = true := decide_eq_true hlt
        have hl2 := HL.out
        obtain ⟨ad, Ak, ck, hA, hcell, hck, hCk⟩ := row3_at HC.out k hlt
        subst hA
        have hsm := small3_at HS3.out k hlt
        have hst := rel_step HF.out RE.out (l.getD k [])
        generalize l.getD k [] = b at hcell hck hCk hsm hst
        have HST := Aside0.mk hst
        have HSM := Aside0.mk hsm
        have HCK := Aside0.mk hCk
        have HK1 := Aside0.mk (show (k : Int) + 1 ≤ 1000000 by omega)
        have HCELL := Aside0.mk hcell
        have hcr := pw_cell_below BR.out hcell
        clear hsm hst hCk hck hcell
        go_upto_region 10 with fail
        refine wp_region_held_drew (S := (fun W => W.cell? (ad.add k) = some (.slice Ak b.length ck))) (by kernel_rfl) ?_ (fun hHeld => ?_)
        · exact hcr
        refine wpAnyH_take (i := 0) (oi := { dst := some 38, op := Go.Op.move (Go.Operand.tmp 9), type := 25, pos := "law.go:63", after := #[], guard := none }) (v := ?vz0) rfl (by kernel_rfl) (by kernel_rfl) (by kernel_rfl) (fun _ _ _ h => h) (Or.inl ⟨by rfl, ?yz0⟩) (by assumption) ?rz0
        case yz0 => (((intro w hSw; (try dsimp only at hSw); go_simp) <;> with_reducible rfl))
        try simp only [put_]
        refine wpAnyH_take (i := 1) (oi := { dst := some 39, op := Go.Op.move (Go.Operand.tmp 2), type := 22, pos := "law.go:63", after := #[], guard := none }) (v := ?vz1) rfl (by kernel_rfl) (by kernel_rfl) (by kernel_rfl) (fun _ _ _ h => h) (Or.inl ⟨by rfl, ?yz1⟩) (by assumption) ?rz1
        case yz1 => (((intro w hSw; (try dsimp only at hSw); go_simp) <;> with_reducible rfl))
        try simp only [put_]
        refine wpAnyH_take (i := 2) (oi := { dst := some 40, op := Go.Op.move (Go.Operand.tmp 11), type := 3, pos := "law.go:63", after := #[], guard := none }) (v := ?vz2) rfl (by kernel_rfl) (by kernel_rfl) (by kernel_rfl) (fun _ _ _ h => h) (Or.inl ⟨by rfl, ?yz2⟩) (by assumption) ?rz2
        case yz2 => (((intro w hSw; (try dsimp only at hSw); go_simp) <;> with_reducible rfl))
        try simp only [put_]
        refine wpAnyH_take (i := 3) (oi := { dst := some 41, op := Go.Op.indexAddr 22 (Go.Operand.tmp 39) (Go.Operand.tmp 40), type := 0, pos := "law.go:63", after := #[{ on := 1, ground := Go.Ground.data }, { on := 2, ground := Go.Ground.data }], guard := none }) (v := ?vz3) rfl (by kernel_rfl) (by kernel_rfl) (by kernel_rfl) (fun _ _ _ h => h) (Or.inl ⟨by rfl, ?yz3⟩) (by assumption) ?rz3
        case yz3 => (((intro w hSw; (try dsimp only at hSw); go_simp) <;> with_reducible rfl))
        try simp only [put_]
        refine wpAnyH_take (i := 4) (oi := { dst := some 42, op := Go.Op.load 30 (Go.Operand.tmp 41), type := 30, pos := "law.go:63", after := #[{ on := 3, ground := Go.Ground.data }], guard := none }) (v := ?vz4) rfl (by kernel_rfl) (by kernel_rfl) (by kernel_rfl) (fun _ _ _ h => h) (Or.inl ⟨by rfl, ?yz4⟩) (by assumption) ?rz4
        case yz4 => (((intro w hSw; (try dsimp only at hSw); go_simp) <;> with_reducible rfl))
        try simp only [put_]
        refine wpAnyH_take (i := 6) (oi := { dst := some 44, op := Go.Op.move (Go.Operand.tmp 10), type := 27, pos := "law.go:63", after := #[], guard := none }) (v := ?vz6) rfl (by kernel_rfl) (by kernel_rfl) (by kernel_rfl) (fun _ _ _ h => h) (Or.inl ⟨by rfl, ?yz6⟩) (by assumption) ?rz6
        case yz6 => (((intro w hSw; (try dsimp only at hSw); go_simp) <;> with_reducible rfl))
        try simp only [put_]
        refine wpAnyH_take (i := 7) (oi := { dst := some 45, op := Go.Op.move (Go.Operand.tmp 2), type := 22, pos := "law.go:63", after := #[], guard := none }) (v := ?vz7) rfl (by kernel_rfl) (by kernel_rfl) (by kernel_rfl) (fun _ _ _ h => h) (Or.inl ⟨by rfl, ?yz7⟩) (by assumption) ?rz7
        case yz7 => (((intro w hSw; (try dsimp only at hSw); go_simp) <;> with_reducible rfl))
        try simp only [put_]
        refine wpAnyH_take (i := 8) (oi := { dst := some 46, op := Go.Op.move (Go.Operand.tmp 11), type := 3, pos := "law.go:63", after := #[], guard := none }) (v := ?vz8) rfl (by kernel_rfl) (by kernel_rfl) (by kernel_rfl) (fun _ _ _ h => h) (Or.inl ⟨by rfl, ?yz8⟩) (by assumption) ?rz8
        case yz8 => (((intro w hSw; (try dsimp only at hSw); go_simp) <;> with_reducible rfl))
        try simp only [put_]
        refine wpAnyH_take (i := 9) (oi := { dst := some 47, op := Go.Op.indexAddr 22 (Go.Operand.tmp 45) (Go.Operand.tmp 46), type := 0, pos := "law.go:63", after := #[{ on := 7, ground := Go.Ground.data }, { on := 8, ground := Go.Ground.data }], guard := none }) (v := ?vz9) rfl (by kernel_rfl) (by kernel_rfl) (by kernel_rfl) (fun _ _ _ h => h) (Or.inl ⟨by rfl, ?yz9⟩) (by assumption) ?rz9
        case yz9 => (((intro w hSw; (try dsimp only at hSw); go_simp) <;> with_reducible rfl))
        try simp only [put_]
        refine wpAnyH_take (i := 10) (oi := { dst := some 48, op := Go.Op.load 30 (Go.Operand.tmp 47), type := 30, pos := "law.go:63", after := #[{ on := 9, ground := Go.Ground.data }], guard := none }) (v := ?vz10) rfl (by kernel_rfl) (by kernel_rfl) (by kernel_rfl) (fun _ _ _ h => h) (Or.inl ⟨by rfl, ?yz10⟩) (by assumption) ?rz10
        case yz10 => (((intro w hSw; (try dsimp only at hSw); go_simp) <;> with_reducible rfl))
        try simp only [put_]
        refine wpAnyH_ready (rs := [5]) (by kernel_rfl) (by simp) ?_
        refine AllReadyH.cons (o := { dst := some 43, op := Go.Op.call { callee := Go.Callee.value (Go.Operand.func 13), args := #[Go.Operand.tmp 38, Go.Operand.tmp 42], argTypes := #[25, 30] }, type := 3, pos := "law.go:63", after := #[{ on := 0, ground := Go.Ground.data }, { on := 4, ground := Go.Ground.data }], guard := none }) rfl (fun K hK => ?kz5) AllReadyH.nil
        go_simp
        refine (IStep_calls wr.drew (IR.out.below (below_drew (Below.refl _ _))) HK1.out Ak ck b (fun W hW => Kd.C_below HCK.out (below_thenB (below_drew BR.out) (hW.below HW.out.2 (by have := BR.out.size; simpa using this)) (Nat.le_refl _))) HSM.out.1 HSM.out.2).mono ?_
        rintro e w5 ⟨rfl, hI, hO⟩
        replace hO := (drew_only wr gx).trans hO
        have I5a := Aside0.mk hI
        have R5 := Aside0.mk (RR.out.onlyI IR.out hO)
        have B5 := bonly BR hO HW.out.2
        clear hI hO
        go_simp
        refine hK.out _ _ ?_ (fun hHeld => ?_)
        · exact pw_cell_below B5.out HCELL.out
        clear hK K
        try simp only [put_]
        refine wpAnyH_ready (rs := [11]) (by kernel_rfl) (by simp) ?_
        refine AllReadyH.cons (o := { dst := some 49, op := Go.Op.call { callee := Go.Callee.value (Go.Operand.func 14), args := #[Go.Operand.tmp 44, Go.Operand.tmp 48], argTypes := #[27, 30] }, type := 3, pos := "law.go:63", after := #[{ on := 6, ground := Go.Ground.data }, { on := 10, ground := Go.Ground.data }, { on := 5, ground := Go.Ground.chain }], guard := none }) rfl (fun K hK => ?kz11) AllReadyH.nil
        go_simp
        refine (RIStep_calls w5 R5.out Ak ck b (fun W hW => Kd.C_below HCK.out (below_thenB B5.out (hW.below HV.out.2 B5.out.size) (Nat.le_refl _))) HSM.out.1 HSM.out.2).mono ?_
        rintro e w7 ⟨rfl, hI, hO⟩
        rw [HST.out.1]
        have I7 := Aside0.mk (I5a.out.onlyR R5.out hO)
        have R7a := Aside0.mk hI
        have B7 := bonly B5 hO HV.out.2
        clear hI hO
        go_simp
        refine hK.out _ _ ?_ (fun hHeld => ?_)
        · exact pw_cell_below B7.out HCELL.out
        clear hK K
        try simp only [put_]
        refine wpAnyH_take (i := 12) (oi := { dst := some 50, op := Go.Op.binOp Go.BinOp.neq 3 (Go.Operand.tmp 43) (Go.Operand.tmp 49) 3, type := 4, pos := "law.go:63", after := #[{ on := 5, ground := Go.Ground.data }, { on := 11, ground := Go.Ground.data }], guard := none }) (v := ?vz12) rfl (by kernel_rfl) (by kernel_rfl) (by kernel_rfl) (fun _ _ _ h => h) (Or.inl ⟨by rfl, ?yz12⟩) (by assumption) ?rz12
        case yz12 => (((intro w hSw; (try dsimp only at hSw); go_simp) <;> with_reducible rfl))
        try simp only [put_]
        refine wpAnyH_take (i := 13) (oi := { dst := some 51, op := Go.Op.move (Go.Operand.tmp 50), type := 4, pos := "law.go:63", after := #[{ on := 12, ground := Go.Ground.data }, { on := 11, ground := Go.Ground.chain }], guard := none }) (v := ?vz13) rfl (by kernel_rfl) (by kernel_rfl) (by kernel_rfl) (fun _ _ _ h => h) (Or.inl ⟨by rfl, ?yz13⟩) (by assumption) ?rz13
        case yz13 => (((intro w hSw; (try dsimp only at hSw); go_simp) <;> with_reducible rfl))
        try simp only [put_]
        refine wpAnyH_take (i := 14) (oi := { dst := some 52, op := Go.Op.move (Go.Operand.tmp 9), type := 25, pos := "law.go:63", after := #[{ on := 13, ground := Go.Ground.guard }], guard := some (13, false) }) (v := ?vz14) rfl (by kernel_rfl) (by kernel_rfl) (by kernel_rfl) (fun _ _ _ h => h) (Or.inl ⟨by rfl, ?yz14⟩) (by assumption) ?rz14
        case yz14 => (((intro w hSw; (try dsimp only at hSw); go_simp) <;> with_reducible rfl))
        try simp only [put_]
        refine wpAnyH_take (i := 16) (oi := { dst := some 54, op := Go.Op.move (Go.Operand.tmp 10), type := 27, pos := "law.go:63", after := #[{ on := 13, ground := Go.Ground.guard }], guard := some (13, false) }) (v := ?vz16) rfl (by kernel_rfl) (by kernel_rfl) (by kernel_rfl) (fun _ _ _ h => h) (Or.inl ⟨by rfl, ?yz16⟩) (by assumption) ?rz16
        case yz16 => (((intro w hSw; (try dsimp only at hSw); go_simp) <;> with_reducible rfl))
        try simp only [put_]
        refine wpAnyH_ready (rs := [15]) (by kernel_rfl) (by simp) ?_
        refine AllReadyH.cons (o := { dst := some 53, op := Go.Op.call { callee := Go.Callee.value (Go.Operand.func 16), args := #[Go.Operand.tmp 52], argTypes := #[25] }, type := 36, pos := "law.go:63", after := #[{ on := 14, ground := Go.Ground.data }, { on := 13, ground := Go.Ground.chain }, { on := 13, ground := Go.Ground.guard }], guard := some (13, false) }) rfl (fun K hK => ?kz15) AllReadyH.nil
        go_simp
        refine (Now_calls w7 I7.out.obj I7.out.lk HK1.out I7.out.hn).mono ?_
        rintro e w8 ⟨v8, rfl, hR8, hb⟩
        obtain ⟨A8, c8, rfl, hc8, hC8⟩ := Kd.R_reads hR8
        have I8 := Aside0.mk (I7.out.below hb)
        have R8 := Aside0.mk (R7a.out.below hb)
        have B8 := Aside0.mk (below_thenB B7.out hb B7.out.size)
        have C8 := Aside0.mk (And.intro hc8 hC8)
        have HTL := Aside0.mk (show (nowI F (k + 1) (stepI F (k + 1) S b).2 (trk t)).tracks.length ≤ 1000000 by show (tracksOf _ _ _).length ≤ _; rw [tracksOf_len]; have := I7.out.hn; omega)
        have HNO := Aside0.mk (rel_now HST.out.2 (trk t))
        clear hR8 hb hc8 hC8
        unfold Inp.val
        go_simp
        refine hK.out _ _ ?_ (fun hHeld => ?_)
        · exact pw_cell_below B8.out HCELL.out
        clear hK K
        try simp only [put_]
        refine wpAnyH_ready (rs := [17]) (by kernel_rfl) (by simp) ?_
        refine AllReadyH.cons (o := { dst := some 55, op := Go.Op.call { callee := Go.Callee.value (Go.Operand.func 17), args := #[Go.Operand.tmp 54], argTypes := #[27] }, type := 36, pos := "law.go:63", after := #[{ on := 16, ground := Go.Ground.data }, { on := 15, ground := Go.Ground.chain }, { on := 13, ground := Go.Ground.guard }], guard := some (13, false) }) rfl (fun K hK => ?kz17) AllReadyH.nil
        go_simp
        refine (RNow_calls w8 R8.out.obj R8.out.lk R8.out.by_ R8.out.hn).mono ?_
        rintro e w9 ⟨v9, rfl, hR9, hb⟩
        rw [HNO.out] at hR9 ⊢
        obtain ⟨A9, c9, rfl, hc9, hC9⟩ := Kd.R_reads hR9
        have I9 := Aside0.mk (I8.out.below hb)
        have R9 := Aside0.mk (R8.out.below hb)
        have B9 := Aside0.mk (below_thenB B8.out hb B8.out.size)
        have C9 := Aside0.mk (And.intro hc9 hC9)
        have C89 := Aside0.mk (Kd.C_below C8.out.2 hb)
        clear hR9 hb hc9 hC9
        unfold Inp.val
        go_simp
        refine hK.out _ _ ?_ (fun hHeld => ?_)
        · exact pw_cell_below B9.out HCELL.out
        clear hK K
        try simp only [put_]
        refine wpAnyH_ready (rs := [18]) (by kernel_rfl) (by simp) ?_
        refine AllReadyH.cons (o := { dst := some 56, op := Go.Op.call { callee := Go.Callee.value (Go.Operand.func 15), args := #[Go.Operand.tmp 53, Go.Operand.tmp 55], argTypes := #[36, 36] }, type := 4, pos := "law.go:63", after := #[{ on := 15, ground := Go.Ground.data }, { on := 17, ground := Go.Ground.data }, { on := 17, ground := Go.Ground.chain }, { on := 13, ground := Go.Ground.guard }], guard := some (13, false) }) rfl (fun K hK => ?kz18) AllReadyH.nil
        go_simp
        refine (Same_calls _ A8 c8 A9 c9 w9 HTL.out C89.out C8.out.1 C9.out.2 C9.out.1).mono ?_
        rintro e w10 ⟨rfl, hb⟩
        have I5 := Aside0.mk (I9.out.below hb)
        have R7 := Aside0.mk (R9.out.below hb)
        have B10 := Aside0.mk (below_thenB B9.out hb B9.out.size)
        clear hb
        go_simp
        refine hK.out _ _ ?_ (fun hHeld => ?_)
        · exact pw_cell_below B10.out HCELL.out
        clear hK K
        try simp only [put_]
        refine wpAnyH_take (i := 19) (oi := { dst := some 57, op := Go.Op.unOp Go.UnOp.not 4 (Go.Operand.tmp 56), type := 4, pos := "law.go:63", after := #[{ on := 18, ground := Go.Ground.data }, { on := 13, ground := Go.Ground.guard }], guard := some (13, false) }) (v := ?vz19) rfl (by kernel_rfl) (by kernel_rfl) (by kernel_rfl) (fun _ _ _ h => h) (Or.inl ⟨by rfl, ?yz19⟩) (by assumption) ?rz19
        case yz19 => (((intro w hSw; (try dsimp only at hSw); go_simp) <;> with_reducible rfl))
        try simp only [put_]
        refine wpAnyH_take (i := 20) (oi := { dst := some 58, op := Go.Op.pick (Go.Operand.tmp 51) (Go.Operand.const (Go.Value.bool true)) (Go.Operand.tmp 57), type := 4, pos := "law.go:63", after := #[{ on := 13, ground := Go.Ground.data }, { on := 19, ground := Go.Ground.data }], guard := none }) (v := ?vz20) rfl (by kernel_rfl) (by kernel_rfl) (by kernel_rfl) (fun _ _ _ h => h) (Or.inl ⟨by rfl, ?yz20⟩) (by assumption) ?rz20
        case yz20 => (((intro w hSw; (try dsimp only at hSw); go_simp) <;> with_reducible rfl))
        try simp only [put_]
        refine wpAnyH_done (by kernel_rfl) ?_ _
        go_wp2_with fail
        have HLT := Aside0.mk hlt
        refine ⟨⟨k + 1, _, _, hlt, rfl, I5, R7, ⟨HST.out.2⟩, B10⟩, by have := HLT.out; simp [intOf]; omega⟩
      · have dk : decide (k < l.length) = false := decide_eq_false hlt
        have HNO := Aside0.mk (rel_now RE.out (trk t))
        have HN1 := Aside0.mk (show (k : Int) ≤ 1000000 by have := HL.out; omega)
        go_wp2_with fail
        refine (Now_calls wr IR.out.obj IR.out.lk HN1.out IR.out.hn).mono ?_
        rintro e w6 ⟨v6, rfl, hR6, hb⟩
        obtain ⟨A6, c6, rfl, hc6, hC6⟩ := Kd.R_reads hR6
        have R6 := Aside0.mk (RR.out.below hb)
        have B6 := Aside0.mk (below_thenB BR.out hb BR.out.size)
        have C6 := Aside0.mk (And.intro hc6 hC6)
        have HTL := Aside0.mk (show (nowI F k S (trk t)).tracks.length ≤ 1000000 by show (tracksOf _ _ _).length ≤ _; rw [tracksOf_len]; have := IR.out.hn; omega)
        clear hR6 hb hc6 hC6
        unfold Inp.val
        go_wp2_with fail
        refine (RNow_calls w6 R6.out.obj R6.out.lk R6.out.by_ R6.out.hn).mono ?_
        rintro e w7 ⟨v7, rfl, hR7, hb⟩
        rw [HNO.out] at hR7 ⊢
        generalize nowI F k S (trk t) = J at C6 hR7 HTL
        obtain ⟨A7, c7, rfl, hc7, hC7⟩ := Kd.R_reads hR7
        have B7 := Aside0.mk (below_thenB B6.out hb B6.out.size)
        have C7 := Aside0.mk (And.intro hc7 hC7)
        have C67 := Aside0.mk (Kd.C_below C6.out.2 hb)
        clear hR7 hb hc7 hC7
        unfold Inp.val
        go_wp2_with fail
        refine (Same_calls J A6 c6 A7 c7 w7 HTL.out C67.out C6.out.1 C7.out.2 C7.out.1).mono ?_
        rintro e w8 ⟨rfl, hb⟩
        have B8 := Aside0.mk (below_thenB B7.out hb B7.out.size)
        clear hb
        go_wp2_with fail
        go_ret
        exact ⟨rfl, B8.out⟩
theorem isteps_walk (t f : Int) (l : List (List (List Int))) (A : Option Addr) (c : Nat) (w : World) (_ : (Lit.int .i64 t).wf = true) (_ : (Lit.int .i64 f).wf = true) (hC : Kd.C (Kd.slice 44 (Kd.slice 5 (Kd.int .u8))) w A l.length l) (hl : l.length ≤ c) (hS : Small3 l) (hg : Gerr w) : Calls Tryd.prog 3 #[.int .i64 t, .int .i64 f, .slice A l.length c] w fun e w' => e = .returned (.bool true) ∧ Below w.heap.size w w' := isteps_calls0 t f A c l w hC hl hS hg
end Go.Proofs.YtfijlaahifeimaaDoor.PE
