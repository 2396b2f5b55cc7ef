/- inputs: InputsStale' walk. -/
import Derived.Test.YtfijlaahifeimaaDoorMG
namespace Go.Proofs.YtfijlaahifeimaaDoor.PE
open Go.RowKit Go.Extern.Stop Go.Stop Go.Extern Go.Proofs.YtfijlaahifeimaaDoorW.PrintWords Go.Proofs.YtfijlaahifeimaaDoorW.PrintLast Go.Proofs.YtfijlaahifeimaaDoorW.PrintMore Go.Proofs.YtfijlaahifeimaaDoor.PS
set_option linter.unusedVariables false
set_option linter.unusedSimpArgs false
/-- Of nothing, the restrictive thing. -/
def noneI (n : Nat) : Inp := nowOf (fun _ => []) (fun _ => false) false n
theorem stale_val (n : Nat) (v : Value) : (noneI n).val v = valZ 1 true v := by
  have e : ∀ r : Int, sRoutes [] false r = 0 := fun r => by
    have h := sRoutes_eq [] false r
    have h2 : sensor_Routes.f [] false r = some 0 := by unfold sensor_Routes.f sensor_single.f; rfl
    rw [h2] at h; exact (Option.some.inj h).symm
  unfold noneI nowOf Inp.val valZ
  rw [e]
  show _ = _
  kernel_rfl
theorem stale_tracks (n : Nat) : (noneI n).tracks = List.replicate n ⟨false, 0, 0, 0, 0⟩ := by
  have h : (noneI n).tracks = tracksOf (fun _ => []) (fun _ => false) n := by unfold noneI nowOf; rfl
  rw [h]
  unfold tracksOf
  rw [List.eq_replicate_iff]
  refine ⟨by simp, fun b hb => ?_⟩
  obtain ⟨i, _, rfl⟩ := List.mem_map.1 hb
  show sCnt [] false = _
  kernel_rfl
theorem stale_now {W : World} {x g : Nat} {F now : Int} {n : Nat} {st : Nat → Ch} (h : IK W x g F now n st) (now' : Int) (hn : now + F + 1 ≤ now') (m : Nat) : nowI F now' st m = noneI m := by
  have hf : ∀ ch, isF F now' st ch = false := fun ch => by
    unfold isF
    by_cases hc : 0 ≤ ch ∧ ch ≤ 15
    · have hs := h.lk.hst ch.toNat (by omega)
      have hF := h.lk.hF
      unfold Ch.fresh
      rw [decide_eq_false (p := min (now' - (st ch.toNat).tm) (F + 1) ≤ F) (by omega), Bool.and_false, Bool.and_false]
    · rw [decide_eq_false hc, Bool.false_and]
  have hd : ∀ ch, dataF F now' st ch = [] := fun ch => by unfold dataF; rw [hf]; rfl
  have ha : ((atF F now' st 0).had && ((atF F now' st 0).age == 0)) = false := by
    unfold atF
    split
    · have hs := h.lk.hst (0 : Int).toNat (by decide)
      have hF := h.lk.hF
      have : ((st (0 : Int).toNat).age F now' == 0) = false := by
        unfold Ch.age
        simp only [beq_eq_false_iff_ne, ne_eq]
        omega
      dsimp only
      rw [this, Bool.and_false]
    · rfl
  unfold nowI noneI
  rw [ha, show dataF F now' st = fun _ => [] from funext hd, show isF F now' st = fun _ => false from funext hf]
set_option maxHeartbeats 16000000 in
set_option maxRecDepth 100000 in
theorem istale_calls0 (t f : Int) (A : Option Addr) (c : Nat) (l : List (List (List Int))) (w : World) (hC : Kd.C (Kd.slice 44 (Kd.slice 5 (Kd.int .u8))) w A l.length l) (hcc : l.length ≤ c) (hs : Small3 l) (hg : Gerr w) : Calls Tryd.prog 5 #[.int .i64 t, .int .i64 f, .slice A l.length c] w fun e w' => e = .returned (.bool true) ∧ Below w.heap.size w w' := by
  by_cases hf : 500 < f
  · have df : decide (500 < f) = true := decide_eq_true hf
    have HC := Aside0.mk hC
    have HCC := Aside0.mk hcc
    have HS3 := Aside0.mk hs
    have HG := Aside0.mk hg
    clear hC hcc hs hg
    go_enter Tryd.func5, Tryd.ntmps5
    go_wp2_with fail
    refine (small_calls w HG.out).mono ?_
    rintro e w1 ⟨rfl, hb⟩
    have B1 := Aside0.mk hb
    clear hb
    go_wp2_with fail
    refine (Few_calls A c l w1 (Kd.C_below HC.out B1.out) HCC.out HS3.out).mono ?_
    rintro e w2 ⟨r, rfl, hr, hb⟩
    have B2 := Aside0.mk (below_thenB B1.out hb B1.out.size)
    have HR := Aside0.mk hr
    clear hb hr
    go_wp2_with fail
    refine (INew_calls t f w2).mono ?_
    rintro e w3 ⟨x, gx, rfl, hI, hx, hgx, hb⟩
    have B3 := Aside0.mk (below_thenB B2.out hb B2.out.size)
    have HW := Aside0.mk (show w.heap.size ≤ x ∧ w.heap.size ≤ gx from ⟨Nat.le_trans B2.out.size hx, Nat.le_trans B2.out.size hgx⟩)
    have HF := Aside0.mk (F_is f)
    have I3 : Aside0 (IK w3 x gx (max 1 (min f 6000)) 0 (trk t) (fun _ => Ch.zero)) := ⟨hI⟩
    have HT := Aside0.mk (trk_is t)
    generalize hFF : max 1 (min f 6000) = F at HF I3
    have HFF := Aside0.mk hFF
    clear hb hx hgx hI hFF B1 B2
    cases r with
    | false =>
      go_wp2_with fail
      go_ret
      exact ⟨rfl, B3.out⟩
    | true =>
      go_wp2_with fail
      go_ret
      exact ⟨rfl, B3.out⟩
  · have df : decide (500 < f) = false := decide_eq_false hf
    have HF5 := Aside0.mk hf
    clear hf
    have HC := Aside0.mk hC
    have HCC := Aside0.mk hcc
    have HS3 := Aside0.mk hs
    have HG := Aside0.mk hg
    clear hC hcc hs hg
    go_enter Tryd.func5, Tryd.ntmps5
    go_wp2_with fail
    refine (small_calls w HG.out).mono ?_
    rintro e w1 ⟨rfl, hb⟩
    have B1 := Aside0.mk hb
    clear hb
    go_wp2_with fail
    refine (Few_calls A c l w1 (Kd.C_below HC.out B1.out) HCC.out HS3.out).mono ?_
    rintro e w2 ⟨r, rfl, hr, hb⟩
    have B2 := Aside0.mk (below_thenB B1.out hb B1.out.size)
    have HR := Aside0.mk hr
    clear hb hr
    go_wp2_with fail
    refine (INew_calls t f w2).mono ?_
    rintro e w3 ⟨x, gx, rfl, hI, hx, hgx, hb⟩
    have B3 := Aside0.mk (below_thenB B2.out hb B2.out.size)
    have HW := Aside0.mk (show w.heap.size ≤ x ∧ w.heap.size ≤ gx from ⟨Nat.le_trans B2.out.size hx, Nat.le_trans B2.out.size hgx⟩)
    have HF := Aside0.mk (F_is f)
    have I3 : Aside0 (IK w3 x gx (max 1 (min f 6000)) 0 (trk t) (fun _ => Ch.zero)) := ⟨hI⟩
    have HT := Aside0.mk (trk_is t)
    generalize hFF : max 1 (min f 6000) = F at HF I3
    have HFF := Aside0.mk hFF
    clear hb hx hgx hI hFF B1 B2
    cases r with
    | false =>
      go_wp2_with fail
      go_ret
      exact ⟨rfl, B3.out⟩
    | true =>
      have HL := Aside0.mk (HR.out rfl)
      clear HR
      go_wp2_with fail
      go_loopw [10] (fun i W => ∃ (k : Nat) (S : Nat → Ch), k ≤ l.length ∧ i = .int .i64 k ∧ Aside0 (IK W x gx F k (trk t) S) ∧ Aside0 (Below w.heap.size w W)) (fun i _ => l.length - (intOf i).toNat)
      case atStart => exact ⟨0, _, by omega, rfl, I3, B3⟩
      case round =>
        obtain ⟨k, S, hk, rfl, IR, BR⟩ := hrel
        by_cases hlt : k < l.length
        · have dk : decide (k < l.length) = true := decide_eq_true hlt
          have hl2 := HL.out
          obtain ⟨ad, Ak, ck, hA, hcell, hck, hCk⟩ := row3_at HC.out k hlt
          subst hA
          have hsm := small3_at HS3.out k hlt
          generalize l.getD k [] = b at hcell hck hCk hsm
          have HSM := Aside0.mk hsm
          have HCK := Aside0.mk hCk
          have HK1 := Aside0.mk (show (k : Int) + 1 ≤ 1000000 by omega)
          have hcr := pw_cell_below BR.out hcell
          clear hsm hCk hck hcell
          go_wp2_with fail
          refine (IStep_calls wr IR.out HK1.out Ak ck b (fun W hW => Kd.C_below HCK.out (below_thenB BR.out (hW.below HW.out.2 BR.out.size) (Nat.le_refl _))) HSM.out.1 HSM.out.2).mono ?_
          rintro e w5 ⟨rfl, hI, hO⟩
          have I5 := Aside0.mk hI
          have B5 := bonly BR hO HW.out.2
          have HLT := Aside0.mk hlt
          clear hI hO
          go_wp2_with fail
          refine ⟨⟨k + 1, _, HLT.out, rfl, I5, B5⟩, by have := HLT.out; simp [intOf]; omega⟩
        · have dk : decide (k < l.length) = false := decide_eq_false hlt
          have hkl : k = l.length := by omega
          have HN1 := Aside0.mk (show (k : Int) ≤ 200 by have := HL.out; omega)
          have HL0 := Aside0.mk (show (0 : Int) ≤ (k : Int) by omega)
          clear hkl hlt
          have m1 : (1 : Int) ≤ max f 1 := by omega
          have m2 : max f 1 ≤ 500 := by have := HF5.out; omega
          have HMF := Aside0.mk (show max f 1 = F by have := HF5.out; have := HFF.out; omega)
          have HST : Aside0 (nowI F ((k : Int) + (max f 1 + 1)) S (trk t) = noneI (trk t)) := ⟨stale_now IR.out _ (by have := HMF.out; omega) _⟩
          go_wp2_with fail
          go_loopw [11] (fun i W => ∃ j : Nat, (j : Int) ≤ max f 1 + 1 ∧ i = .int .i64 j ∧ Aside0 (IK W x gx F ((k : Int) + j) (trk t) S) ∧ Aside0 (Below w.heap.size w W)) (fun i _ => (max f 1 + 1).toNat - (intOf i).toNat)
          case atStart => exact ⟨0, by omega, rfl, ⟨by rw [show (k : Int) + ((0 : Nat) : Int) = k by omega]; exact IR.out⟩, BR⟩
          case round =>
            obtain ⟨j, hj, rfl, JR, CR⟩ := hrel
            by_cases hjl : (j : Int) < max f 1 + 1
            · have dj : decide ((j : Int) < max f 1 + 1) = true := decide_eq_true hjl
              have HJL := Aside0.mk hjl
              have hj5 : (j : Int) ≤ 501 := by omega
              go_wp2_with fail
              refine (ITick_calls _ JR.out (by have := HN1.out; omega)).mono ?_
              rintro e w5 ⟨rfl, hI, hO⟩
              have I5 : Aside0 (IK w5 x gx F ((k : Int) + (j + 1 : Nat)) (trk t) S) := ⟨by
                have e : (k : Int) + ((j + 1 : Nat) : Int) = (k : Int) + j + 1 := by omega
                rw [e]; exact hI⟩
              have B5 := bonly CR hO HW.out.2
              clear hI hO
              go_wp2_with fail
              refine ⟨⟨j + 1, by have := HJL.out; omega, rfl, I5, B5⟩, by have := HJL.out; simp [intOf]; omega⟩
            · have dj : decide ((j : Int) < max f 1 + 1) = false := decide_eq_false hjl
              have hje : (j : Int) = max f 1 + 1 := by omega
              rw [hje] at JR
              have HN2 := Aside0.mk (show (k : Int) + (max f 1 + 1) ≤ 1000000 by have := HN1.out; omega)
              clear hj hjl hje
              go_wp2_with fail
              refine (Now_calls _ JR.out.obj JR.out.lk HN2.out JR.out.hn).mono ?_
              rintro e w6 ⟨v6, rfl, hR, hb⟩
              rw [HST.out, stale_tracks] at hR
              rw [HST.out, stale_val]
              obtain ⟨A6, c6, rfl, hc6, hC6⟩ := Kd.R_reads hR
              rw [List.length_replicate] at hc6 hC6 ⊢
              have B6 := Aside0.mk (below_thenB CR.out hb CR.out.size)
              have C6 := Aside0.mk hC6
              have HTN := HT.out.1
              have hlen : (((trk t : Nat) : Int) != min (max t 1) 8) = false := by rw [HTN]; simp only [bne_eq_false_iff_eq]; omega
              have HNN := Aside0.mk HT.out.2
              clear hR hb hc6 hC6 HTN m1 m2
              unfold valZ
              go_upto_region 15 with fail
              obtain ⟨w7, hw7⟩ : ∃ w7, w7 = w6.alloc (.cells #[.bool false, .bool false, .bool false, .bool false, .bool false, .bool false, .bool true, .int .i64 1, .bool false, .bool false, .int .i64 0, .slice A6 (trk t) c6] 36) := ⟨_, rfl⟩
              have hb : Below w6.heap.size w6 w7 := by rw [hw7]; exact below_alloc (Below.refl _ _) _
              have HB7 : w7.heap[w6.heap.size]? = some (.cells #[.bool false, .bool false, .bool false, .bool false, .bool false, .bool false, .bool true, .int .i64 1, .bool false, .bool false, .int .i64 0, .slice A6 (trk t) c6] 36 (0, 0)) := by rw [hw7]; exact heap_new _ _
              rw [← hw7]
              have B7 := Aside0.mk (below_thenB B6.out hb B6.out.size)
              have C7 := Aside0.mk (Kd.C_below C6.out hb)
              clear hw7 hb
              have q0 : World.cell? w7 ⟨w6.heap.size, 0, none⟩ = some (.bool false) := cell_of_heap HB7 0
              have q1 : World.cell? w7 ⟨w6.heap.size, 1, none⟩ = some (.bool false) := cell_of_heap HB7 1
              have q2 : World.cell? w7 ⟨w6.heap.size, 2, none⟩ = some (.bool false) := cell_of_heap HB7 2
              have q3 : World.cell? w7 ⟨w6.heap.size, 3, none⟩ = some (.bool false) := cell_of_heap HB7 3
              have q4 : World.cell? w7 ⟨w6.heap.size, 4, none⟩ = some (.bool false) := cell_of_heap HB7 4
              have q5 : World.cell? w7 ⟨w6.heap.size, 5, none⟩ = some (.bool false) := cell_of_heap HB7 5
              have q6 : World.cell? w7 ⟨w6.heap.size, 6, none⟩ = some (.bool true) := cell_of_heap HB7 6
              have q7 : World.cell? w7 ⟨w6.heap.size, 7, none⟩ = some (.int .i64 1) := cell_of_heap HB7 7
              have q8 : World.cell? w7 ⟨w6.heap.size, 8, none⟩ = some (.bool false) := cell_of_heap HB7 8
              have q9 : World.cell? w7 ⟨w6.heap.size, 9, none⟩ = some (.bool false) := cell_of_heap HB7 9
              have q10 : World.cell? w7 ⟨w6.heap.size, 10, none⟩ = some (.int .i64 0) := cell_of_heap HB7 10
              have q11 : World.cell? w7 ⟨w6.heap.size, 11, none⟩ = some (.slice A6 (trk t) c6) := cell_of_heap HB7 11
              go_wp2_with fail
              go_loopw [13] (fun i W => ∃ j : Nat, j ≤ trk t ∧ i = .int .i64 j ∧ Aside0 (Below w7.heap.size w7 W)) (fun i _ => trk t - (intOf i).toNat)
              case atStart => exact ⟨0, by omega, rfl, ⟨Below.refl _ _⟩⟩
              case round =>
                obtain ⟨m, hm, rfl, MR⟩ := hrel
                have q11 := pw_cell_below MR.out q11
                by_cases hml : m < trk t
                · have dm : decide (m < trk t) = true := decide_eq_true hml
                  have hm8 : (m : Int) ≤ 8 := by have := HNN.out; omega
                  obtain ⟨ad, hA, a0, a1, a2, a3, a4⟩ := at_T48 (Kd.C_below C7.out MR.out) (m : Int) (by omega) (by omega)
                  have hz : rd_T48 (List.replicate (trk t) ⟨false, 0, 0, 0, 0⟩) (m : Int) = ⟨false, 0, 0, 0, 0⟩ := by
                    unfold rd_T48
                    rw [Int.toNat_natCast, List.getD_eq_getElem?_getD, List.getElem?_replicate, if_pos hml]; rfl
                  subst hA
                  rw [Int.toNat_natCast, hz] at a0 a1 a2 a3 a4
                  have HML := Aside0.mk hml
                  clear hz
                  go_wp2_with fail
                  refine ⟨⟨m + 1, HML.out, rfl, MR⟩, by have := HML.out; simp [intOf]; omega⟩
                · have dm : decide (m < trk t) = false := decide_eq_false hml
                  go_wp2_with fail
                  go_ret
                  exact ⟨rfl, below_thenB B7.out MR.out B7.out.size⟩
theorem istale_walk (t f : Int) (l : List (List (List Int))) (A : Option Addr) (c : Nat) (w : World) (_ : (Lit.int .i64 t).wf = true) (_ : (Lit.int .i64 f).wf = true) (hC : Kd.C (Kd.slice 44 (Kd.slice 5 (Kd.int .u8))) w A l.length l) (hl : l.length ≤ c) (hS : Small3 l) (hg : Gerr w) : Calls Tryd.prog 5 #[.int .i64 t, .int .i64 f, .slice A l.length c] w fun e w' => e = .returned (.bool true) ∧ Below w.heap.size w w' := istale_calls0 t f A c l w hC hl hS hg
end Go.Proofs.YtfijlaahifeimaaDoor.PE
