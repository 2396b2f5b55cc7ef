/- inputs: InputsRefused' walk. -/
import Derived.Test.YtfijlaahifeimaaDoorMG
namespace Go.Proofs.YtfijlaahifeimaaDoor.PE
open Go.RowKit Go.Extern.Stop Go.Stop Go.Extern Go.Proofs.YtfijlaahifeimaaDoorW.PrintWords Go.Proofs.YtfijlaahifeimaaDoorW.PrintLast Go.Proofs.YtfijlaahifeimaaDoorW.PrintMore Go.Proofs.YtfijlaahifeimaaDoor.PS
set_option linter.unusedVariables false
set_option linter.unusedSimpArgs false
theorem refused_same {F now : Int} {st : Nat → Ch} {b : List Int} (h : takeIE F now st b ≠ 0) : takeIS F now st b = st := by
  unfold takeIE at h
  unfold takeIS
  by_cases hd : decE b = 0
  · rw [if_pos hd] at h ⊢
    unfold takeS
    rw [if_neg h]
  · rw [if_neg hd]
theorem takeIE_few (F now : Int) (st : Nat → Ch) (b : List Int) : 0 ≤ takeIE F now st b ∧ takeIE F now st b ≤ 4 := by
  unfold takeIE
  split
  · unfold takeE; split
    · omega
    · split <;> omega
  · unfold decE; split
    · omega
    · split <;> omega
set_option maxHeartbeats 16000000 in
set_option maxRecDepth 100000 in
theorem irefused_calls0 (t f : Int) (A : Option Addr) (c : Nat) (l : List (List (List Int))) (A' : Option Addr) (c' : Nat) (bs : List Int) (w : World) (hC : Kd.C (Kd.slice 44 (Kd.slice 5 (Kd.int .u8))) w A l.length l) (hcc : l.length ≤ c) (hs : Small3 l) (hC' : Kd.C (Kd.int .u8) w A' bs.length bs) (hcc' : bs.length ≤ c') (hs' : Bytes bs ∧ bs.length ≤ 140737488351232) (hg : Gerr w) : Calls Tryd.prog 6 #[.int .i64 t, .int .i64 f, .slice A l.length c, .slice A' bs.length c'] w fun e w' => e = .returned (.bool true) ∧ Below w.heap.size w w' := by
  have HC' := Aside0.mk hC'
  have HCC' := Aside0.mk hcc'
  have HS' := Aside0.mk hs'
  clear hC' hcc' hs'
  by_cases hf : 500 < (bs.length : Int)
  · have df : decide (500 < (bs.length : Int)) = true := decide_eq_true hf
    have HC := Aside0.mk hC
    have HCC := Aside0.mk hcc
    have HS3 := Aside0.mk hs
    have HG := Aside0.mk hg
    clear hC hcc hs hg
    go_enter Tryd.func6, Tryd.ntmps6
    go_wp2_with fail
    refine (small_calls w HG.out).mono ?_
    rintro e w1 ⟨rfl, hb⟩
    have B1 := Aside0.mk hb
    clear hb
    go_wp2_with fail
    refine (Few_calls A c l w1 (Kd.C_below HC.out B1.out) HCC.out HS3.out).mono ?_
    rintro e w2 ⟨r, rfl, hr, hb⟩
    have B2 := Aside0.mk (below_thenB B1.out hb B1.out.size)
    have HR := Aside0.mk hr
    clear hb hr
    go_wp2_with fail
    refine (INew_calls t f w2).mono ?_
    rintro e w3 ⟨x, gx, rfl, hI, hx, hgx, hb⟩
    have B3 := Aside0.mk (below_thenB B2.out hb B2.out.size)
    have HW := Aside0.mk (show w.heap.size ≤ x ∧ w.heap.size ≤ gx from ⟨Nat.le_trans B2.out.size hx, Nat.le_trans B2.out.size hgx⟩)
    have HF := Aside0.mk (F_is f)
    have I3 : Aside0 (IK w3 x gx (max 1 (min f 6000)) 0 (trk t) (fun _ => Ch.zero)) := ⟨hI⟩
    have HT := Aside0.mk (trk_is t)
    generalize hFF : max 1 (min f 6000) = F at HF I3
    have HFF := Aside0.mk hFF
    clear hb hx hgx hI hFF B1 B2
    cases r with
    | false =>
      go_wp2_with fail
      go_ret
      exact ⟨rfl, B3.out⟩
    | true =>
      go_wp2_with fail
      go_ret
      exact ⟨rfl, B3.out⟩
  · have df : decide (500 < (bs.length : Int)) = false := decide_eq_false hf
    clear hf
    have HC := Aside0.mk hC
    have HCC := Aside0.mk hcc
    have HS3 := Aside0.mk hs
    have HG := Aside0.mk hg
    clear hC hcc hs hg
    go_enter Tryd.func6, Tryd.ntmps6
    go_wp2_with fail
    refine (small_calls w HG.out).mono ?_
    rintro e w1 ⟨rfl, hb⟩
    have B1 := Aside0.mk hb
    clear hb
    go_wp2_with fail
    refine (Few_calls A c l w1 (Kd.C_below HC.out B1.out) HCC.out HS3.out).mono ?_
    rintro e w2 ⟨r, rfl, hr, hb⟩
    have B2 := Aside0.mk (below_thenB B1.out hb B1.out.size)
    have HR := Aside0.mk hr
    clear hb hr
    go_wp2_with fail
    refine (INew_calls t f w2).mono ?_
    rintro e w3 ⟨x, gx, rfl, hI, hx, hgx, hb⟩
    have B3 := Aside0.mk (below_thenB B2.out hb B2.out.size)
    have HW := Aside0.mk (show w.heap.size ≤ x ∧ w.heap.size ≤ gx from ⟨Nat.le_trans B2.out.size hx, Nat.le_trans B2.out.size hgx⟩)
    have HF := Aside0.mk (F_is f)
    have I3 : Aside0 (IK w3 x gx (max 1 (min f 6000)) 0 (trk t) (fun _ => Ch.zero)) := ⟨hI⟩
    have HT := Aside0.mk (trk_is t)
    generalize hFF : max 1 (min f 6000) = F at HF I3
    have HFF := Aside0.mk hFF
    clear hb hx hgx hI hFF B1 B2
    cases r with
    | false =>
      go_wp2_with fail
      go_ret
      exact ⟨rfl, B3.out⟩
    | true =>
      have HL := Aside0.mk (HR.out rfl)
      clear HR
      go_wp2_with fail
      go_loopw [12] (fun i W => ∃ (k : Nat) (S : Nat → Ch), k ≤ l.length ∧ i = .int .i64 k ∧ Aside0 (IK W x gx F k (trk t) S) ∧ Aside0 (Below w.heap.size w W)) (fun i _ => l.length - (intOf i).toNat)
      case atStart => exact ⟨0, _, by omega, rfl, I3, B3⟩
      case round =>
        obtain ⟨k, S, hk, rfl, IR, BR⟩ := hrel
        by_cases hlt : k < l.length
        · have dk : decide (k < l.length) = true := decide_eq_true hlt
          have hl2 := HL.out
          obtain ⟨ad, Ak, ck, hA, hcell, hck, hCk⟩ := row3_at HC.out k hlt
          subst hA
          have hsm := small3_at HS3.out k hlt
          generalize l.getD k [] = b at hcell hck hCk hsm
          have HSM := Aside0.mk hsm
          have HCK := Aside0.mk hCk
          have HK1 := Aside0.mk (show (k : Int) + 1 ≤ 1000000 by omega)
          have hcr := pw_cell_below BR.out hcell
          clear hsm hCk hck hcell
          go_wp2_with fail
          refine (IStep_calls wr IR.out HK1.out Ak ck b (fun W hW => Kd.C_below HCK.out (below_thenB BR.out (hW.below HW.out.2 BR.out.size) (Nat.le_refl _))) HSM.out.1 HSM.out.2).mono ?_
          rintro e w5 ⟨rfl, hI, hO⟩
          have I5 := Aside0.mk hI
          have B5 := bonly BR hO HW.out.2
          have HLT := Aside0.mk hlt
          clear hI hO
          go_wp2_with fail
          refine ⟨⟨k + 1, _, HLT.out, rfl, I5, B5⟩, by have := HLT.out; simp [intOf]; omega⟩
        · have dk : decide (k < l.length) = false := decide_eq_false hlt
          have hkl : k = l.length := by omega
          have HN1 := Aside0.mk (show (k : Int) ≤ 200 by have := HL.out; omega)
          have HL0 := Aside0.mk (show (0 : Int) ≤ (k : Int) by omega)
          clear hkl hlt
          have HNK := Aside0.mk (show (k : Int) ≤ 1000000 by have := HN1.out; omega)
          have hg1 := HW.out.2
          go_wp2_with fail
          refine (Now_calls wr IR.out.obj IR.out.lk HNK.out IR.out.hn).mono ?_
          rintro e w5 ⟨v5, rfl, hR, hb⟩
          have HNR := Aside0.mk (show gx < wr.heap.size from IR.out.lk.lt)
          have I5 := Aside0.mk (IR.out.below hb)
          have B5 := Aside0.mk (below_thenB BR.out hb BR.out.size)
          have R5 := Aside0.mk (R_fromS hR)
          have HTL := Aside0.mk (show (nowI F k S (trk t)).tracks.length ≤ 1000000 by show (tracksOf _ _ _).length ≤ _; rw [tracksOf_len]; have := IR.out.hn; omega)
          generalize hJJ : nowI F k S (trk t) = J at R5 HTL
          have HJJ := Aside0.mk hJJ
          obtain ⟨b0, b1, b2, b3, su, la, ob, mo, ma, ba, ro, tr⟩ := J
          obtain ⟨A5, c5, rfl, -, -⟩ := Kd.R_reads R5.out
          clear hR hb hJJ hg1 BR IR
          unfold Inp.val
          dsimp only at HTL R5 ⊢
          go_upto_region 11 with fail
          obtain ⟨w6, hw6⟩ : ∃ w6, w6 = w5.alloc (.cells #[.bool b0, .bool b1, .bool b2, .bool b3, .bool su, .bool la, .bool ob, .int .i64 mo, .bool ma, .bool ba, .int .i64 ro, .slice A5 tr.length c5] 36) := ⟨_, rfl⟩
          have hb : Below w5.heap.size w5 w6 := by rw [hw6]; exact below_alloc (Below.refl _ _) _
          have HB6 : Aside0 (w6.heap[w5.heap.size]? = some (.cells #[.bool b0, .bool b1, .bool b2, .bool b3, .bool su, .bool la, .bool ob, .int .i64 mo, .bool ma, .bool ba, .int .i64 ro, .slice A5 tr.length c5] 36 (0, 0))) := ⟨by rw [hw6]; exact heap_new _ _⟩
          have HN6 := Aside0.mk (show w5.heap.size ≠ gx by have := I5.out.lk.lt; omega)
          rw [← hw6]
          have I6 := Aside0.mk (I5.out.below hb)
          have B6 := Aside0.mk (below_thenB B5.out hb B5.out.size)
          have R6 := Aside0.mk (Kd.R_below R5.out hb)
          clear hw6 hb I5 B5 R5
          go_wp2_with fail
          refine (ITake_calls w6 I6.out HNK.out A' c' bs (Kd.C_below HC'.out B6.out) HCC'.out HS'.out.2 HS'.out.1).mono ?_
          rintro e w7 ⟨v7, rfl, hE, hI, hO⟩
          have hE4 := takeIE_few F k S bs
          have HSM := Aside0.mk (fun h => refused_same (F := F) (now := k) (st := S) (b := bs) h)
          generalize takeIE F k S bs = E at hE hE4 HSM
          generalize takeIS F k S bs = S2 at hI HSM
          have I7 := Aside0.mk hI
          have E7 := Aside0.mk hE
          have B7 := bonly B6 hO HW.out.2
          have HB7 := Aside0.mk (heap_only hO HN6.out HB6.out)
          have R7 := Aside0.mk (R_onlyS R6.out hO (fun k hk => Nat.ne_of_gt (Nat.lt_of_lt_of_le HNR.out hk)))
          clear hI hE hO I6 B6 HB6 R6
          go_wp2_with fail
          refine (Now_calls w7 I7.out.obj I7.out.lk HNK.out I7.out.hn).mono ?_
          rintro e w8 ⟨v8, rfl, hR, hb⟩
          have E8 := Aside0.mk (E7.out.below ⟨hb⟩)
          have B8 := Aside0.mk (below_thenB B7.out hb B7.out.size)
          have HB8 := Aside0.mk (heap_below ⟨hb⟩ HB7.out)
          have R8 := Aside0.mk (Kd.R_below R7.out hb)
          clear hb I7 E7 B7 HB7 R7
          rcases Int.lt_or_le 0 E with hE0 | hE0
          · have hS2 := HSM.out (by omega)
            rw [hS2, HJJ.out] at hR
            rw [hS2, HJJ.out]
            have Q8 := Aside0.mk hR
            obtain ⟨A8, c8, rfl, -, -⟩ := Kd.R_reads Q8.out
            rcases E8.out.cases with ⟨h0, -⟩ | ⟨-, ty, y, rfl⟩
            case inl => exact absurd h0 (by omega)
            have d0 : (E != 0) = true := by simp only [bne_iff_ne, ne_eq]; omega
            have d99 : (E != 99) = true := by simp only [bne_iff_ne, ne_eq]; omega
            clear hR hS2 HSM hE4 hE0
            unfold Inp.val
            dsimp only at Q8 ⊢
            go_upto_region 13 with fail
            obtain ⟨w9, hw9⟩ : ∃ w9, w9 = w8.alloc (.cells #[.bool b0, .bool b1, .bool b2, .bool b3, .bool su, .bool la, .bool ob, .int .i64 mo, .bool ma, .bool ba, .int .i64 ro, .slice A8 tr.length c8] 36) := ⟨_, rfl⟩
            have hb : Below w8.heap.size w8 w9 := by rw [hw9]; exact below_alloc (Below.refl _ _) _
            have HD9 : Aside0 (w9.heap[w8.heap.size]? = some (.cells #[.bool b0, .bool b1, .bool b2, .bool b3, .bool su, .bool la, .bool ob, .int .i64 mo, .bool ma, .bool ba, .int .i64 ro, .slice A8 tr.length c8] 36 (0, 0))) := ⟨by rw [hw9]; exact heap_new _ _⟩
            rw [← hw9]
            have E9 := Aside0.mk (E8.out.below ⟨hb⟩)
            have B9 := Aside0.mk (below_thenB B8.out hb B8.out.size)
            have HB9 := Aside0.mk (heap_below ⟨hb⟩ HB8.out)
            obtain ⟨-, h5, h6⟩ := Kd.R_reads' (Kd.R_below R8.out hb)
            obtain ⟨-, h7, h8⟩ := Kd.R_reads' (Kd.R_below Q8.out hb)
            have CC := Aside0.mk (And.intro (And.intro h5 h6) (And.intro h7 h8))
            clear hw9 hb h5 h6 h7 h8
            have p0 : World.cell? w9 ⟨w5.heap.size, 0, none⟩ = some (.bool b0) := cell_of_heap HB9.out 0
            have q0 : World.cell? w9 ⟨w8.heap.size, 0, none⟩ = some (.bool b0) := cell_of_heap HD9.out 0
            have p1 : World.cell? w9 ⟨w5.heap.size, 1, none⟩ = some (.bool b1) := cell_of_heap HB9.out 1
            have q1 : World.cell? w9 ⟨w8.heap.size, 1, none⟩ = some (.bool b1) := cell_of_heap HD9.out 1
            have p2 : World.cell? w9 ⟨w5.heap.size, 2, none⟩ = some (.bool b2) := cell_of_heap HB9.out 2
            have q2 : World.cell? w9 ⟨w8.heap.size, 2, none⟩ = some (.bool b2) := cell_of_heap HD9.out 2
            have p3 : World.cell? w9 ⟨w5.heap.size, 3, none⟩ = some (.bool b3) := cell_of_heap HB9.out 3
            have q3 : World.cell? w9 ⟨w8.heap.size, 3, none⟩ = some (.bool b3) := cell_of_heap HD9.out 3
            have p4 : World.cell? w9 ⟨w5.heap.size, 4, none⟩ = some (.bool su) := cell_of_heap HB9.out 4
            have q4 : World.cell? w9 ⟨w8.heap.size, 4, none⟩ = some (.bool su) := cell_of_heap HD9.out 4
            have p5 : World.cell? w9 ⟨w5.heap.size, 5, none⟩ = some (.bool la) := cell_of_heap HB9.out 5
            have q5 : World.cell? w9 ⟨w8.heap.size, 5, none⟩ = some (.bool la) := cell_of_heap HD9.out 5
            have p6 : World.cell? w9 ⟨w5.heap.size, 6, none⟩ = some (.bool ob) := cell_of_heap HB9.out 6
            have q6 : World.cell? w9 ⟨w8.heap.size, 6, none⟩ = some (.bool ob) := cell_of_heap HD9.out 6
            have p7 : World.cell? w9 ⟨w5.heap.size, 7, none⟩ = some (.int .i64 mo) := cell_of_heap HB9.out 7
            have q7 : World.cell? w9 ⟨w8.heap.size, 7, none⟩ = some (.int .i64 mo) := cell_of_heap HD9.out 7
            have p8 : World.cell? w9 ⟨w5.heap.size, 8, none⟩ = some (.bool ma) := cell_of_heap HB9.out 8
            have q8 : World.cell? w9 ⟨w8.heap.size, 8, none⟩ = some (.bool ma) := cell_of_heap HD9.out 8
            have p9 : World.cell? w9 ⟨w5.heap.size, 9, none⟩ = some (.bool ba) := cell_of_heap HB9.out 9
            have q9 : World.cell? w9 ⟨w8.heap.size, 9, none⟩ = some (.bool ba) := cell_of_heap HD9.out 9
            have p10 : World.cell? w9 ⟨w5.heap.size, 10, none⟩ = some (.int .i64 ro) := cell_of_heap HB9.out 10
            have q10 : World.cell? w9 ⟨w8.heap.size, 10, none⟩ = some (.int .i64 ro) := cell_of_heap HD9.out 10
            have p11 : World.cell? w9 ⟨w5.heap.size, 11, none⟩ = some (.slice A5 tr.length c5) := cell_of_heap HB9.out 11
            have q11 : World.cell? w9 ⟨w8.heap.size, 11, none⟩ = some (.slice A8 tr.length c8) := cell_of_heap HD9.out 11
            go_wp2_with fail
            refine (Same_calls ⟨b0, b1, b2, b3, su, la, ob, mo, ma, ba, ro, tr⟩ A5 c5 A8 c8 w9 HTL.out CC.out.1.2 CC.out.1.1 CC.out.2.2 CC.out.2.1).mono ?_
            rintro e w10 ⟨rfl, hb⟩
            have E10 := Aside0.mk (E9.out.below ⟨hb⟩)
            have B10 := Aside0.mk (below_thenB B9.out hb B9.out.size)
            clear hb p0 q0 p1 q1 p2 q2 p3 q3 p4 q4 p5 q5 p6 q6 p7 q7 p8 q8 p9 q9 p10 q10 p11 q11
            go_wp2_with fail
            refine (ICode_calls _ E w10 (HG.out.below B10) E10.out).mono ?_
            rintro e w11 ⟨rfl, hb⟩
            have E11 := Aside0.mk (E10.out.below ⟨hb⟩)
            have B11 := Aside0.mk (below_thenB B10.out hb B10.out.size)
            clear hb
            go_wp2_with fail
            refine (ICode_calls _ E w11 (HG.out.below B11) E11.out).mono ?_
            rintro e w12 ⟨rfl, hb⟩
            have B12 := Aside0.mk (below_thenB B11.out hb B11.out.size)
            clear hb
            go_wp2_with fail
            go_ret
            exact ⟨rfl, B12.out⟩
          · rcases E8.out.cases with ⟨-, rfl⟩ | ⟨h0, -⟩
            case inr => exact absurd (show E = 0 by omega) h0
            generalize nowI F k S2 (trk t) = J2 at hR
            obtain ⟨A8, c8, rfl, -, -⟩ := Kd.R_reads hR
            clear hR
            unfold Inp.val
            go_wp2_with fail
            go_ret
            exact ⟨rfl, below_alloc B8.out _⟩
theorem irefused_walk (t f : Int) (l : List (List (List Int))) (A : Option Addr) (c : Nat) (bs : List Int) (A' : Option Addr) (c' : Nat) (w : World) (_ : (Lit.int .i64 t).wf = true) (_ : (Lit.int .i64 f).wf = true) (hC : Kd.C (Kd.slice 44 (Kd.slice 5 (Kd.int .u8))) w A l.length l) (hl : l.length ≤ c) (hS : Small3 l) (hC' : Kd.C (Kd.int .u8) w A' bs.length bs) (hl' : bs.length ≤ c') (hS' : Bytes bs ∧ bs.length ≤ 140737488351232) (hg : Gerr w) : Calls Tryd.prog 6 #[.int .i64 t, .int .i64 f, .slice A l.length c, .slice A' bs.length c'] w fun e w' => e = .returned (.bool true) ∧ Below w.heap.size w w' := irefused_calls0 t f A c l A' c' bs w hC hl hS hC' hl' hS' hg
end Go.Proofs.YtfijlaahifeimaaDoor.PE
