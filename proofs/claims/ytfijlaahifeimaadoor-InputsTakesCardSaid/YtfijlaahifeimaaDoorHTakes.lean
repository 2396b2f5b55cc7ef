/- inputs: InputsTakes' walk. -/
import Derived.Test.YtfijlaahifeimaaDoorML
namespace Go.Proofs.YtfijlaahifeimaaDoor.PE
open Go.RowKit Go.Extern.Stop Go.Stop Go.Extern Go.Proofs.YtfijlaahifeimaaDoorW.PrintWords Go.Proofs.YtfijlaahifeimaaDoorW.PrintLast Go.Proofs.YtfijlaahifeimaaDoorW.PrintMore Go.Proofs.YtfijlaahifeimaaDoor.PS
set_option linter.unusedVariables false
set_option linter.unusedSimpArgs false
theorem C_row1 {W : World} {b : Nat} {A : Option Addr} {n c : Nat} {l : List (List Int)} (hb : W.heap[b]? = some (.cells #[.slice A n c] 30 (0, 0))) (hn : l.length = n) (hc : n ≤ c) (hC : Kd.C (Kd.slice 5 (Kd.int .u8)) W A n l) :
    Kd.C (Kd.slice 44 (Kd.slice 5 (Kd.int .u8))) W (some ⟨b, 0, none⟩) 1 [l] := by
  refine ⟨rfl, by decide, fun _ => ⟨⟨b, 0, none⟩, rfl, fun j p hj => ?_⟩⟩
  match j with
  | 0 =>
    have hp : l = p := by simpa using hj
    subst hp
    refine ⟨[.slice A n c], rfl, ⟨A, c, by rw [hn], by rw [hn]; exact hc, by rw [hn]; exact hC⟩, fun i u hu => ?_⟩
    match i with
    | 0 =>
      have hu : Value.slice A n c = u := by simpa using hu
      subst hu
      exact cell_of_heap hb 0
    | i + 1 => simp at hu
  | j + 1 => simp at hj
set_option maxHeartbeats 16000000 in
set_option maxRecDepth 100000 in
theorem itakes_calls0 (t f : Int) (A : Option Addr) (c : Nat) (l : List (List Int)) (w : World) (hC : Kd.C (Kd.slice 5 (Kd.int .u8)) w A l.length l) (hcc : l.length ≤ c) (hs : l.length ≤ 140737488351232 ∧ BytesL l) (hg : Gerr w) : Calls Tryd.prog 4 #[.int .i64 t, .int .i64 f, .slice A l.length c] w fun e w' => e = .returned (.bool true) ∧ Below w.heap.size w w' := by
  have HC := Aside0.mk hC
  have HCC := Aside0.mk hcc
  have HS3 := Aside0.mk hs
  have HG := Aside0.mk hg
  clear hC hcc hs hg
  go_enter Tryd.func4, Tryd.ntmps4
  go_wp2_with fail
  refine (small_calls w HG.out).mono ?_
  rintro e w1 ⟨rfl, hb⟩
  have B1 := Aside0.mk hb
  clear hb
  go_wp2_with fail
  have hb := below_alloc (Below.refl w1.heap.size w1) (.cells #[.slice A l.length c] 30)
  refine (Few_calls (some ⟨w1.heap.size, 0, none⟩) 1 [l] _ (C_row1 (heap_new _ _) rfl HCC.out (Kd.C_below (Kd.C_below HC.out B1.out) hb)) (Nat.le_refl 1) ⟨by simp, fun r hr => by rw [List.mem_singleton] at hr; rw [hr]; exact HS3.out⟩).mono ?_
  rintro e w2 ⟨r, rfl, hr, hb2⟩
  have B2 := Aside0.mk (below_thenB B1.out (below_thenB hb hb2 hb.size) B1.out.size)
  clear hb hr hb2
  go_wp2_with fail
  refine (INew_calls t f w2).mono ?_
  rintro e w3 ⟨x, gx, rfl, hI, hx, hgx, hb⟩
  have B3 := Aside0.mk (below_thenB B2.out hb B2.out.size)
  have HW := Aside0.mk (show w.heap.size ≤ x ∧ w.heap.size ≤ gx from ⟨Nat.le_trans B2.out.size hx, Nat.le_trans B2.out.size hgx⟩)
  have HF := Aside0.mk (F_is f)
  have I3 : Aside0 (IK w3 x gx (max 1 (min f 6000)) 0 (trk t) (fun _ => Ch.zero)) := ⟨hI⟩
  generalize hFF : max 1 (min f 6000) = F at HF I3
  have HFF := Aside0.mk hFF
  clear hb hx hgx hI hFF B1 B2
  cases r with
  | false =>
    go_wp2_with fail
    go_ret
    exact ⟨rfl, B3.out⟩
  | true =>
    go_wp2_with fail
    refine (RINew_calls t f w3).mono ?_
    rintro e w4 ⟨y, gy, rfl, hI, hy, hgy, hb⟩
    rw [HFF.out] at hI
    have R4 : Aside0 (RIK w4 y gy F (trk t) (fun _ => LinkV.zero)) := ⟨hI⟩
    have I4 := Aside0.mk (I3.out.below hb)
    have B4 := Aside0.mk (below_thenB B3.out hb B3.out.size)
    have HV := Aside0.mk (show w.heap.size ≤ y ∧ w.heap.size ≤ gy from ⟨Nat.le_trans B3.out.size hy, Nat.le_trans B3.out.size hgy⟩)
    clear hI hy hgy hb I3 B3 HFF
    go_wp2_with fail
    go_loopw [11] (fun i W => ∃ (k : Nat) (S : Nat → Ch) (R : Nat → LinkV), k ≤ l.length ∧ i = .int .i64 k ∧ Aside0 (IK W x gx F 0 (trk t) S) ∧ Aside0 (RIK W y gy F (trk t) R) ∧ Aside0 (Rel F 0 S R) ∧ Aside0 (Below w.heap.size w W)) (fun i _ => l.length - (intOf i).toNat)
    case atStart => exact ⟨0, _, _, by omega, rfl, I4, R4, ⟨rel_zero F⟩, B4⟩
    case round =>
      obtain ⟨k, S, R, hk, rfl, IR, RR, RE, BR⟩ := hrel
      by_cases hlt : k < l.length
      · have dk : decide (k < l.length) = true := decide_eq_true hlt
        have hl2 := HS3.out.1
        obtain ⟨ad, Ak, ck, hA, hcell, hck, hCk⟩ := row_at HC.out k hlt
        subst hA
        have hsm := bytesL_at HS3.out.2 k hlt
        have hst := rel_one (p := (0, S)) (q := (0, R)) HF.out rfl RE.out (l.getD k [])
        generalize l.getD k [] = b at hcell hck hCk hsm hst
        have HST := Aside0.mk (show takeRIE F R b = takeIE F 0 S b ∧ Rel F 0 (takeIS F 0 S b) (takeRIS F R b) from ⟨hst.1, hst.2.2⟩)
        have HSM := Aside0.mk hsm
        have HCK := Aside0.mk (And.intro hck hCk)
        have HCELL := Aside0.mk hcell
        have hcr := pw_cell_below BR.out hcell
        clear hsm hst hCk hck hcell
        go_upto_region 10 with fail
        refine wp_region_held_drew (S := (fun W => W.cell? (ad.add k) = some (.slice Ak b.length ck))) (by kernel_rfl) ?_ (fun hHeld => ?_)
        · exact hcr
        refine wpAnyH_take (i := 0) (oi := { dst := some 39, op := Go.Op.move (Go.Operand.tmp 9), type := 25, pos := "law.go:80", after := #[], guard := none }) (v := ?vz0) rfl (by kernel_rfl) (by kernel_rfl) (by kernel_rfl) (fun _ _ _ h => h) (Or.inl ⟨by rfl, ?yz0⟩) (by assumption) ?rz0
        case yz0 => (((intro w hSw; (try dsimp only at hSw); go_simp) <;> with_reducible rfl))
        try simp only [put_]
        refine wpAnyH_take (i := 1) (oi := { dst := some 40, op := Go.Op.move (Go.Operand.tmp 2), type := 30, pos := "law.go:80", after := #[], guard := none }) (v := ?vz1) rfl (by kernel_rfl) (by kernel_rfl) (by kernel_rfl) (fun _ _ _ h => h) (Or.inl ⟨by rfl, ?yz1⟩) (by assumption) ?rz1
        case yz1 => (((intro w hSw; (try dsimp only at hSw); go_simp) <;> with_reducible rfl))
        try simp only [put_]
        refine wpAnyH_take (i := 2) (oi := { dst := some 41, op := Go.Op.move (Go.Operand.tmp 11), type := 3, pos := "law.go:80", after := #[], guard := none }) (v := ?vz2) rfl (by kernel_rfl) (by kernel_rfl) (by kernel_rfl) (fun _ _ _ h => h) (Or.inl ⟨by rfl, ?yz2⟩) (by assumption) ?rz2
        case yz2 => (((intro w hSw; (try dsimp only at hSw); go_simp) <;> with_reducible rfl))
        try simp only [put_]
        refine wpAnyH_take (i := 3) (oi := { dst := some 42, op := Go.Op.indexAddr 30 (Go.Operand.tmp 40) (Go.Operand.tmp 41), type := 0, pos := "law.go:80", after := #[{ on := 1, ground := Go.Ground.data }, { on := 2, ground := Go.Ground.data }], guard := none }) (v := ?vz3) rfl (by kernel_rfl) (by kernel_rfl) (by kernel_rfl) (fun _ _ _ h => h) (Or.inl ⟨by rfl, ?yz3⟩) (by assumption) ?rz3
        case yz3 => (((intro w hSw; (try dsimp only at hSw); go_simp) <;> with_reducible rfl))
        try simp only [put_]
        refine wpAnyH_take (i := 4) (oi := { dst := some 43, op := Go.Op.load 44 (Go.Operand.tmp 42), type := 44, pos := "law.go:80", after := #[{ on := 3, ground := Go.Ground.data }], guard := none }) (v := ?vz4) rfl (by kernel_rfl) (by kernel_rfl) (by kernel_rfl) (fun _ _ _ h => h) (Or.inl ⟨by rfl, ?yz4⟩) (by assumption) ?rz4
        case yz4 => (((intro w hSw; (try dsimp only at hSw); go_simp) <;> with_reducible rfl))
        try simp only [put_]
        refine wpAnyH_take (i := 7) (oi := { dst := some 46, op := Go.Op.move (Go.Operand.tmp 10), type := 27, pos := "law.go:80", after := #[], guard := none }) (v := ?vz7) rfl (by kernel_rfl) (by kernel_rfl) (by kernel_rfl) (fun _ _ _ h => h) (Or.inl ⟨by rfl, ?yz7⟩) (by assumption) ?rz7
        case yz7 => (((intro w hSw; (try dsimp only at hSw); go_simp) <;> with_reducible rfl))
        try simp only [put_]
        refine wpAnyH_take (i := 8) (oi := { dst := some 47, op := Go.Op.move (Go.Operand.tmp 2), type := 30, pos := "law.go:80", after := #[], guard := none }) (v := ?vz8) rfl (by kernel_rfl) (by kernel_rfl) (by kernel_rfl) (fun _ _ _ h => h) (Or.inl ⟨by rfl, ?yz8⟩) (by assumption) ?rz8
        case yz8 => (((intro w hSw; (try dsimp only at hSw); go_simp) <;> with_reducible rfl))
        try simp only [put_]
        refine wpAnyH_take (i := 9) (oi := { dst := some 48, op := Go.Op.move (Go.Operand.tmp 11), type := 3, pos := "law.go:80", after := #[], guard := none }) (v := ?vz9) rfl (by kernel_rfl) (by kernel_rfl) (by kernel_rfl) (fun _ _ _ h => h) (Or.inl ⟨by rfl, ?yz9⟩) (by assumption) ?rz9
        case yz9 => (((intro w hSw; (try dsimp only at hSw); go_simp) <;> with_reducible rfl))
        try simp only [put_]
        refine wpAnyH_take (i := 10) (oi := { dst := some 49, op := Go.Op.indexAddr 30 (Go.Operand.tmp 47) (Go.Operand.tmp 48), type := 0, pos := "law.go:80", after := #[{ on := 8, ground := Go.Ground.data }, { on := 9, ground := Go.Ground.data }], guard := none }) (v := ?vz10) rfl (by kernel_rfl) (by kernel_rfl) (by kernel_rfl) (fun _ _ _ h => h) (Or.inl ⟨by rfl, ?yz10⟩) (by assumption) ?rz10
        case yz10 => (((intro w hSw; (try dsimp only at hSw); go_simp) <;> with_reducible rfl))
        try simp only [put_]
        refine wpAnyH_take (i := 11) (oi := { dst := some 50, op := Go.Op.load 44 (Go.Operand.tmp 49), type := 44, pos := "law.go:80", after := #[{ on := 10, ground := Go.Ground.data }], guard := none }) (v := ?vz11) rfl (by kernel_rfl) (by kernel_rfl) (by kernel_rfl) (fun _ _ _ h => h) (Or.inl ⟨by rfl, ?yz11⟩) (by assumption) ?rz11
        case yz11 => (((intro w hSw; (try dsimp only at hSw); go_simp) <;> with_reducible rfl))
        try simp only [put_]
        refine wpAnyH_ready (rs := [5]) (by kernel_rfl) (by simp) ?_
        refine AllReadyH.cons (o := { dst := some 44, op := Go.Op.call { callee := Go.Callee.value (Go.Operand.func 19), args := #[Go.Operand.tmp 39, Go.Operand.tmp 43], argTypes := #[25, 44] }, type := 42, pos := "law.go:80", after := #[{ on := 0, ground := Go.Ground.data }, { on := 4, ground := Go.Ground.data }], guard := none }) rfl (fun K hK => ?kz5) AllReadyH.nil
        go_simp
        refine (ITake_calls wr.drew (IR.out.below (below_drew (Below.refl _ _))) (by decide) Ak ck b (Kd.C_below HCK.out.2 (below_drew BR.out)) HCK.out.1 HSM.out.2 HSM.out.1).mono ?_
        rintro e w5 ⟨v5, rfl, hE, hI, hO⟩
        replace hO := (drew_only wr gx).trans hO
        have I5 := Aside0.mk hI
        have E5 := Aside0.mk hE
        have R5 := Aside0.mk (RR.out.onlyI IR.out hO)
        have B5 := bonly BR hO HW.out.2
        clear hI hO hE
        go_simp
        refine hK.out _ _ ?_ (fun hHeld => ?_)
        · exact pw_cell_below B5.out HCELL.out
        clear hK K
        try simp only [put_]
        refine wpAnyH_ready (rs := [6]) (by kernel_rfl) (by simp) ?_
        refine AllReadyH.cons (o := { dst := some 45, op := Go.Op.call { callee := Go.Callee.value (Go.Operand.func 18), args := #[Go.Operand.tmp 44], argTypes := #[42] }, type := 39, pos := "law.go:80", after := #[{ on := 5, ground := Go.Ground.data }, { on := 5, ground := Go.Ground.chain }], guard := none }) rfl (fun K hK => ?kz6) AllReadyH.nil
        go_simp
        refine (ICode_calls v5 _ w5 (HG.out.below B5) E5.out).mono ?_
        rintro e w6 ⟨rfl, hb⟩
        have I6 := Aside0.mk (I5.out.below hb)
        have R6 := Aside0.mk (R5.out.below hb)
        have B6 := Aside0.mk (below_thenB B5.out hb B5.out.size)
        clear hb
        go_simp
        refine hK.out _ _ ?_ (fun hHeld => ?_)
        · exact pw_cell_below B6.out HCELL.out
        clear hK K
        try simp only [put_]
        refine wpAnyH_ready (rs := [12]) (by kernel_rfl) (by simp) ?_
        refine AllReadyH.cons (o := { dst := some 51, op := Go.Op.call { callee := Go.Callee.value (Go.Operand.func 20), args := #[Go.Operand.tmp 46, Go.Operand.tmp 50], argTypes := #[27, 44] }, type := 39, pos := "law.go:80", after := #[{ on := 7, ground := Go.Ground.data }, { on := 11, ground := Go.Ground.data }, { on := 6, ground := Go.Ground.chain }], guard := none }) rfl (fun K hK => ?kz12) AllReadyH.nil
        go_simp
        refine (RITake_calls w6 R6.out Ak ck b (Kd.C_below HCK.out.2 B6.out) HCK.out.1 HSM.out.2 HSM.out.1).mono ?_
        rintro e w7 ⟨rfl, hI, hO⟩
        rw [HST.out.1]
        have I7 := Aside0.mk (I6.out.onlyR R6.out hO)
        have R7 := Aside0.mk hI
        have B7 := bonly B6 hO HV.out.2
        clear hI hO
        go_simp
        refine hK.out _ _ ?_ (fun hHeld => ?_)
        · exact pw_cell_below B7.out HCELL.out
        clear hK K
        try simp only [put_]
        refine wpAnyH_take (i := 13) (oi := { dst := some 52, op := Go.Op.binOp Go.BinOp.neq 39 (Go.Operand.tmp 45) (Go.Operand.tmp 51) 39, type := 4, pos := "law.go:80", after := #[{ on := 6, ground := Go.Ground.data }, { on := 12, ground := Go.Ground.data }], guard := none }) (v := ?vz13) rfl (by kernel_rfl) (by kernel_rfl) (by kernel_rfl) (fun _ _ _ h => h) (Or.inl ⟨by rfl, ?yz13⟩) (by assumption) ?rz13
        case yz13 => (((intro w hSw; (try dsimp only at hSw); go_simp) <;> with_reducible rfl))
        try simp only [put_]
        refine wpAnyH_done (by kernel_rfl) ?_ _
        go_wp2_with fail
        have HLT := Aside0.mk hlt
        refine ⟨⟨k + 1, _, _, hlt, rfl, I7, R7, ⟨HST.out.2⟩, B7⟩, by have := HLT.out; simp [intOf]; omega⟩
      · have dk : decide (k < l.length) = false := decide_eq_false hlt
        have HNO := Aside0.mk (rel_now RE.out (trk t))
        go_wp2_with fail
        refine (Now_calls wr IR.out.obj IR.out.lk (by decide) IR.out.hn).mono ?_
        rintro e w6 ⟨v6, rfl, hR6, hb⟩
        obtain ⟨A6, c6, rfl, hc6, hC6⟩ := Kd.R_reads hR6
        have R6 := Aside0.mk (RR.out.below hb)
        have B6 := Aside0.mk (below_thenB BR.out hb BR.out.size)
        have C6 := Aside0.mk (And.intro hc6 hC6)
        have HTL := Aside0.mk (show (nowI F 0 S (trk t)).tracks.length ≤ 1000000 by show (tracksOf _ _ _).length ≤ _; rw [tracksOf_len]; have := IR.out.hn; omega)
        clear hR6 hb hc6 hC6
        unfold Inp.val
        go_wp2_with fail
        refine (RNow_calls w6 R6.out.obj R6.out.lk R6.out.by_ R6.out.hn).mono ?_
        rintro e w7 ⟨v7, rfl, hR7, hb⟩
        rw [HNO.out] at hR7 ⊢
        generalize nowI F 0 S (trk t) = J at C6 hR7 HTL
        obtain ⟨A7, c7, rfl, hc7, hC7⟩ := Kd.R_reads hR7
        have B7 := Aside0.mk (below_thenB B6.out hb B6.out.size)
        have C7 := Aside0.mk (And.intro hc7 hC7)
        have C67 := Aside0.mk (Kd.C_below C6.out.2 hb)
        clear hR7 hb hc7 hC7
        unfold Inp.val
        go_wp2_with fail
        refine (Same_calls J A6 c6 A7 c7 w7 HTL.out C67.out C6.out.1 C7.out.2 C7.out.1).mono ?_
        rintro e w8 ⟨rfl, hb⟩
        have B8 := Aside0.mk (below_thenB B7.out hb B7.out.size)
        clear hb
        go_wp2_with fail
        go_ret
        exact ⟨rfl, B8.out⟩
theorem itakes_walk (t f : Int) (l : List (List Int)) (A : Option Addr) (c : Nat) (w : World) (_ : (Lit.int .i64 t).wf = true) (_ : (Lit.int .i64 f).wf = true) (hC : Kd.C (Kd.slice 5 (Kd.int .u8)) w A l.length l) (hl : l.length ≤ c) (hS : l.length ≤ 140737488351232 ∧ BytesL l) (hg : Gerr w) : Calls Tryd.prog 4 #[.int .i64 t, .int .i64 f, .slice A l.length c] w fun e w' => e = .returned (.bool true) ∧ Below w.heap.size w w' := itakes_calls0 t f A c l w hC hl hS hg
end Go.Proofs.YtfijlaahifeimaaDoor.PE
