/- link: LinkPlays' walk. -/
import Derived.Test.YtcikcehphpbfhaaDoorHRef2
import Derived.Test.YtcikcehphpbfhaaDoorHApart
namespace Go.Proofs.YtcikcehphpbfhaaDoor.PE
open Go.RowKit Go.Extern.Stop Go.Stop Go.Extern Go.Proofs.YtcikcehphpbfhaaDoorW.PrintWords Go.Proofs.YtcikcehphpbfhaaDoorW.PrintLast Go.Proofs.YtcikcehphpbfhaaDoorW.PrintMore
set_option linter.unusedVariables false
set_option linter.unusedSimpArgs false
/-- The program's channel and the reference's agree. -/
structure RelC (F now : Int) (c : Ch) (r : LinkV) : Prop where
  had : c.had = r.had
  seq : c.seq = r.seq
  data : c.data = r.data
  age : r.age = if c.had = true then min (now - c.tm) (F + 1) else 0
  zero : c.had = false → c.seq = 0 ∧ c.data = []
def Rel (F now : Int) (S : Nat → Ch) (R : Nat → LinkV) : Prop := ∀ i, i < 16 → RelC F now (S i) (R i)
theorem rel_fresh {F now : Int} {S : Nat → Ch} {R : Nat → LinkV} (h : Rel F now S R) (ch : Int) : isR F R ch = isF F now S ch ∧ dataR F R ch = dataF F now S ch := by
  have e : isR F R ch = isF F now S ch := by
    unfold isR isF Ch.fresh
    by_cases hc : 0 ≤ ch ∧ ch ≤ 15
    · rw [decide_eq_true hc, Bool.true_and, Bool.true_and]
      have r := h ch.toNat (by omega)
      rw [← r.had, r.age]
      cases hh : (S ch.toNat).had with
      | false => rfl
      | true => rw [if_pos rfl]
    · rw [decide_eq_false hc, Bool.false_and, Bool.false_and]
  refine ⟨e, ?_⟩
  unfold dataR dataF
  rw [e]
  by_cases hc : 0 ≤ ch ∧ ch ≤ 15
  · rw [(h ch.toNat (by omega)).data]
  · have : isF F now S ch = false := by unfold isF; rw [decide_eq_false hc, Bool.false_and]
    rw [this]; rfl
theorem rel_at {F now : Int} {S : Nat → Ch} {R : Nat → LinkV} (h : Rel F now S R) (ch : Int) : atF F now S ch = atR F R ch := by
  have hf := rel_fresh h ch
  unfold atF atR
  by_cases hc : 0 ≤ ch ∧ ch ≤ 15
  · have r := h ch.toNat (by omega)
    rw [if_pos hc]
    cases hh : (S ch.toNat).had with
    | false =>
      rw [if_neg (by simp)]
      have h1 : (R ch.toNat).had = false := by rw [← r.had, hh]
      have h2 : (R ch.toNat).seq = 0 := by rw [← r.seq]; exact (r.zero hh).1
      have h3 : (R ch.toNat).age = 0 := by rw [r.age, hh]; rfl
      have h4 : dataR F R ch = [] := by unfold dataR isR; rw [h1]; simp
      rw [h1, h2, h3, h4]; rfl
    | true =>
      rw [if_pos ⟨hc, rfl⟩, ← r.had, hh, ← r.seq, r.age, hf.2, if_pos hh]; rfl
  · rw [if_neg (fun x => hc x.1), if_neg hc]
theorem rel_take {F now : Int} {S : Nat → Ch} {R : Nat → LinkV} (h : Rel F now S R) (ch sq : Int) (xs : List Int) (hF : 1 ≤ F ∧ F ≤ 6000) :
    takeRE F R ch sq xs.length = takeE F now S ch sq xs.length ∧ Rel F now (takeS F now S ch sq xs) (takeRS F R ch sq xs) := by
  have e : takeRE F R ch sq xs.length = takeE F now S ch sq xs.length := by
    unfold takeRE takeE
    by_cases ha : argF ch sq xs.length
    · rw [if_pos ha, if_pos ha]
    · rw [if_neg ha, if_neg ha]
      have hc : 0 ≤ ch ∧ ch ≤ 15 := by unfold argF at ha; omega
      have r := h ch.toNat (by omega)
      have h1 : isR F R ch = (S ch.toNat).fresh F now := by
        rw [(rel_fresh h ch).1]; unfold isF; rw [decide_eq_true hc, Bool.true_and]
      have h2 : oldR F R ch sq = oldF F now (S ch.toNat) sq := by
        unfold oldR oldF
        rw [h1, ← r.seq]
        have h3 : decide ((sq - (S ch.toNat).seq + 256) % 256 < 1) = decide ((sq - (S ch.toNat).seq + 256) % 256 = 0) := by
          by_cases h4 : (sq - (S ch.toNat).seq + 256) % 256 = 0
          · rw [decide_eq_true h4, decide_eq_true (by omega)]
          · rw [decide_eq_false h4, decide_eq_false (by omega)]
        rw [h3]
      rw [h2]
  refine ⟨e, ?_⟩
  unfold takeS takeRS
  rw [e]
  by_cases hz : takeE F now S ch sq xs.length = 0
  · rw [if_pos hz, if_pos hz]
    intro i hi
    by_cases hic : i = ch.toNat
    · subst hic
      rw [upd_same, updR_same]
      exact ⟨rfl, rfl, rfl, by simp; omega, fun h => Bool.noConfusion h⟩
    · rw [upd_other _ _ hic, updR_other _ _ hic]; exact h i hi
  · rw [if_neg hz, if_neg hz]; exact h
theorem rel_tick {F : Int} {now : Nat} {S : Nat → Ch} {R : Nat → LinkV} (h : Rel F now S R) : Rel F (now + 1 : Nat) S (fun i => tickR F (R i)) := by
  intro i hi
  have r := h i hi
  show RelC F (now + 1 : Nat) (S i) (tickR F (R i))
  unfold tickR
  cases hh : (R i).had with
  | false =>
    rw [if_neg (by simp)]
    have hs : (S i).had = false := by rw [r.had, hh]
    exact ⟨r.had, r.seq, r.data, by rw [r.age, hs]; rfl, r.zero⟩
  | true =>
    rw [if_pos rfl]
    have hs : (S i).had = true := by rw [r.had, hh]
    refine ⟨hs, r.seq, r.data, ?_, r.zero⟩
    show min ((R i).age + 1) (F + 1) = _
    rw [r.age, if_pos hs, if_pos hs]; omega
theorem RK.bound {W : World} {g : Nat} {F : Int} {ok : Nat → Prop} {st : Nat → LinkV} (h : RK W g F ok st) : RK W g F (fun k => ok k ∧ k < W.heap.size) st :=
  ⟨h.blk, h.cF, fun i hi => by
    obtain ⟨v, e0, e1, e2, e3, hR⟩ := h.ch i hi
    exact ⟨v, e0, e1, e2, e3, Kd.R_mono (Kd.R_bound hR) (fun k hk => ⟨hk.1, hk.2.2.1⟩)⟩, h.hF, h.hst, fun k hk => h.hok k hk.1⟩
/-- A row of bytes that may be written: its block, or none. -/
def Filled (g n : Nat) (A : Option Addr) (W : World) : Prop := (A = some ⟨g, 0, none⟩ ∧ ∃ cur, W.heap[g]? = some (.cells cur 5 (0, 0)) ∧ n ≤ cur.size) ∨ (A = none ∧ n = 0)
theorem R_fill {W : World} {base n c : Nat} {ok : Nat → Prop} {A : Option Addr} {xs : List Int} (h : Kd.R (Kd.int .u8) 5 W base ok (.slice A n c) xs) : ∃ g, base ≤ g ∧ (g < W.heap.size ∨ g = base) ∧ Filled g n A W := by
  have hn := (Kd.R_reads' h).1
  obtain ⟨_, inner, ho, hr⟩ := h
  rcases ho.2 with ⟨hv, hl⟩ | ⟨g, cap, cur, hv, hg, hh, r⟩
  · injection hv with h1 h2 h3
    exact ⟨base, Nat.le_refl _, .inr rfl, .inr ⟨h1, h2⟩⟩
  · injection hv with h1 h2 h3
    refine ⟨g, hg, .inl (heap_lt hh), .inl ⟨h1, cur, hh, ?_⟩⟩
    have h4 : cur.size = cap * 1 := r.2.2.1
    have h5 : xs.length ≤ cap := r.1
    omega
theorem dataF_len {W : World} {g : Nat} {F now : Int} {ok : Nat → Prop} {st : Nat → Ch} (h : LK W g F now ok st) (ch : Int) : (dataF F now st ch).length ≤ 16 := by
  unfold dataF
  split
  · rename_i hi
    have hc : 0 ≤ ch ∧ ch ≤ 15 := by
      unfold isF at hi
      exact of_decide_eq_true (Bool.and_eq_true_iff.1 hi).1
    exact (h.hst ch.toNat (by omega)).2.2.2.2
  · simp
set_option maxHeartbeats 64000000 in
set_option maxRecDepth 100000 in
theorem plays_calls (f : Int) (A : Option Addr) (c : Nat) (l : List Act1) (ch : Int) (w : World) (hC : Kd.C kAct w A l.length l) (hg : Gerr w) : Calls Tryd.prog 3 #[.int .i64 f, .slice A l.length c, .int .i64 ch] w fun e w' => e = .returned (.bool true) ∧ Below w.heap.size w w' := by
  have HG := Aside0.mk hg
  have HC := Aside0.mk hC
  clear hg hC
  by_cases h2 : 200 < (l.length : Int)
  · have dh2 : decide (200 < (l.length : Int)) = true := decide_eq_true h2
    go_enter Tryd.func3, Tryd.ntmps3
    go_wp2_with fail
    refine (small_calls w HG.out).mono ?_
    rintro e w1 ⟨rfl, hb⟩
    have B1 := Aside0.mk hb
    clear hb
    go_wp2_with fail
    refine (New_calls f w1).mono ?_
    rintro e w2 ⟨rfl, hL, hb⟩
    have B2 := Aside0.mk (below_thenB B1.out hb B1.out.size)
    have X2 := Aside0.mk hL
    have hg1 : w.heap.size ≤ w1.heap.size := B1.out.size
    clear hL hb
    go_wp2_with fail
    go_ret
    exact ⟨rfl, B2.out⟩
  have dh2 : decide (200 < (l.length : Int)) = false := decide_eq_false h2
  go_enter Tryd.func3, Tryd.ntmps3
  go_wp2_with fail
  refine (small_calls w HG.out).mono ?_
  rintro e w1 ⟨rfl, hb⟩
  have B1 := Aside0.mk hb
  clear hb
  go_wp2_with fail
  refine (New_calls f w1).mono ?_
  rintro e w2 ⟨rfl, hL, hb⟩
  have B2 := Aside0.mk (below_thenB B1.out hb B1.out.size)
  have X2 := Aside0.mk hL
  have hg1 : w.heap.size ≤ w1.heap.size := B1.out.size
  clear hL hb
  go_wp2_with fail
  have hl2 : (l.length : Int) ≤ 200 := by omega
  refine (RNew_calls f w2).mono ?_
  rintro e w3 ⟨rfl, hL, hb⟩
  have B3 := Aside0.mk (below_thenB B2.out hb B2.out.size)
  have X3 := Aside0.mk (X2.out.below hb)
  have Y3 := Aside0.mk hL
  have hxy : w1.heap.size < w2.heap.size := X2.out.lt
  have hg2 : w.heap.size ≤ w2.heap.size := B2.out.size
  clear hL hb X2
  generalize hF : max 1 (min f 6000) = F at X3 Y3
  have HF1 := Aside0.mk (show 1 ≤ F ∧ F ≤ 6000 by omega)
  clear hF
  obtain ⟨ok, hok⟩ : ∃ ok : Nat → Prop, ok = fun k => k ≠ w1.heap.size ∧ k ≠ w2.heap.size := ⟨_, rfl⟩
  have X4 : Aside0 (LK w3 w1.heap.size F 0 ok (fun _ => Ch.zero)) := ⟨X3.out.mono (fun _ h => h.elim) (by rw [hok]; exact fun k hk => hk.1)⟩
  have Y4 : Aside0 (RK w3 w2.heap.size F ok (fun _ => LinkV.zero)) := ⟨Y3.out.mono (fun _ h => h.elim) (by rw [hok]; exact fun k hk => hk.2)⟩
  have OKX := Aside0.mk (show ∀ k, ok k → k ≠ w1.heap.size by rw [hok]; exact fun k hk => hk.1)
  have OKY := Aside0.mk (show ∀ k, ok k → k ≠ w2.heap.size by rw [hok]; exact fun k hk => hk.2)
  have OKB := Aside0.mk (show ∀ W : World, w2.heap.size < W.heap.size → ∀ k, W.heap.size ≤ k → ok k by rw [hok]; exact fun W h k hk => ⟨by omega, by omega⟩)
  clear hok X3 Y3
  have HNX := Aside0.mk (show w1.heap.size ≠ w2.heap.size by omega)
  have HXY := Aside0.mk hxy
  clear hxy
  go_wp2_with fail
  go_loopw [10] (fun i W => ∃ k : Nat, k ≤ l.length ∧ i = .int .i64 k ∧ (∃ S R, ∃ now : Nat, Aside0 (now ≤ k) ∧ Aside0 (LK W w1.heap.size F now ok S) ∧ Aside0 (RK W w2.heap.size F ok R) ∧ Aside0 (Rel F now S R)) ∧ Aside0 (Below w.heap.size w W)) (fun i _ => l.length - (intOf i).toNat)
  case atStart => exact ⟨0, by omega, rfl, ⟨_, _, 0, ⟨Nat.le_refl _⟩, X4, Y4, ⟨fun i _ => ⟨rfl, rfl, rfl, rfl, fun _ => ⟨rfl, rfl⟩⟩⟩⟩, B3⟩
  case round =>
    obtain ⟨k, hk, rfl, ⟨S, R, now, HNOW, X5, Y5, REL⟩, B5⟩ := hrel
    have HNW := Aside0.mk (show (now : Int) + 1 ≤ 1000000 by have := HNOW.out; omega)
    by_cases hlt : (k : Int) < (l.length : Int)
    · have dk : decide ((k : Int) < (l.length : Int)) = true := decide_eq_true hlt
      have hi : 0 ≤ (k : Int) ∧ (k : Int) < (l.length : Int) := by omega
      obtain ⟨ad, B, cc, hA, u0, u1, u2, u3, hxc, hCx⟩ := acts_at HC.out k (by omega)
      subst hA
      generalize actAt l k = a at u0 u1 u2 u3 hxc hCx
      obtain ⟨tk, chn, sq, xs⟩ := a
      dsimp only at u0 u1 u2 u3 hxc hCx
      have HCX := Aside0.mk hCx
      have HXC := Aside0.mk hxc
      have U := Aside0.mk (And.intro u0 (And.intro u1 (And.intro u2 u3)))
      clear hCx u0 u1 u2 u3 hxc
      have HM := Aside0.mk (show l.length - (k + 1) < l.length - k by omega)
      have HN := Aside0.mk (show k + 1 ≤ l.length by omega)
      have HW64 := Aside0.mk (show wrap64 ((k : Int) + 1) = k + 1 by unfold wrap64; omega)
      have HNO := Aside0.mk (show now ≤ k + 1 by have := HNOW.out; omega)
      have HNP := Aside0.mk (show now + 1 ≤ k + 1 by have := HNOW.out; omega)
      have u0 := bcellA B5 U.out.1
      have u3 := bcellA B5 U.out.2.2.2
      by_cases hbig : 100 < (xs.length : Int)
      · have d16 : decide (100 < (xs.length : Int)) = true := decide_eq_true hbig
        go_wp2_with fail
        go_ret
        exact ⟨rfl, B5.out⟩
      have d16 : decide (100 < (xs.length : Int)) = false := decide_eq_false hbig
      have HXL := Aside0.mk (show xs.length ≤ 100 by omega)
      cases tk with
      | true =>
        go_wp2_with fail
        clear u0 u3
        refine (Tick_calls wr X5.out (by have := HNW.out; omega)).mono ?_
        rintro e w6 ⟨rfl, hL, hO⟩
        have X6 : Aside0 (LK w6 w1.heap.size F (now + 1 : Nat) ok S) := Aside0.mk hL
        have Y6 := Aside0.mk (Y5.out.only hO (Ne.symm HNX.out) OKX.out)
        have B6 := bonly B5 hO hg1
        clear hL hO X5 Y5
        go_wp2_with fail
        refine (RTick_calls w6 Y6.out).mono ?_
        rintro e w7 ⟨rfl, hL, hO⟩
        have Y7 := Aside0.mk hL
        have X7 := Aside0.mk (X6.out.only hO HNX.out OKY.out)
        have B7 := bonly B6 hO hg2
        clear hL hO X6 Y6
        have REL7 := Aside0.mk (rel_tick REL.out)
        generalize (fun i => tickR F (R i)) = R7 at Y7 REL7
        have HNW2 := Aside0.mk (show ((now + 1 : Nat) : Int) ≤ 1000000 by have := HNW.out; omega)
        have u1 := bcellA B7 U.out.2.1
        go_wp2_with fail
        clear u1
        refine (Fresh_calls w7 X7.out (by have := HNW2.out; omega) chn).mono ?_
        rintro e w10 ⟨va, rfl, hR, hb⟩
        obtain ⟨Aa, ca, rfl, hca, -⟩ := Kd.R_reads hR
        have XA := Aside0.mk (X7.out.bound.below hb)
        have YA := Aside0.mk (Y7.out.bound.below hb)
        have BA := Aside0.mk (below_thenB B7.out hb B7.out.size)
        have RA := Aside0.mk (R_from hR)
        have HVS := Aside0.mk B7.out.size
        have HCA := Aside0.mk hca
        clear hR hb hca
        have hf := rel_fresh REL7.out chn
        have HRF := Aside0.mk hf
        clear hf
        have HDL := Aside0.mk (dataF_len X7.out chn)
        generalize hD : dataF F (now + 1 : Nat) S chn = D at RA HRF HCA HDL ⊢
        clear hD
        generalize hI : isF F (now + 1 : Nat) S chn = isb at HRF ⊢
        clear hI
        go_wp2_with fail
        have hA := RFresh_calls w10 YA.out chn
        rw [HRF.out.1, HRF.out.2] at hA
        refine hA.mono ?_
        clear hA
        rintro e w11 ⟨vb, rfl, hR, hb⟩
        obtain ⟨Ab, cb, rfl, -, hCb⟩ := Kd.R_reads hR
        have XB := Aside0.mk (XA.out.below hb)
        have YB := Aside0.mk (YA.out.below hb)
        have BB := Aside0.mk (below_thenB BA.out hb BA.out.size)
        have RB := Aside0.mk (Kd.R_below RA.out hb)
        have hv2 : (convert 28 9 (.slice Ab D.length cb)).run Tryd.prog w11 = .ok (.string (strOfNums D)) w11 := Kd.C_string (P := Tryd.prog) (src := 28) (dst := 9) (e := 5) (c := cb) Tryd.underlying28 Tryd.underlying5 Tryd.underlying9 hCb
        have hv : (convert 28 9 (.slice Aa D.length ca)).run Tryd.prog w11 = .ok (.string (strOfNums D)) w11 := by
          obtain ⟨_, _, hCa⟩ := Kd.R_reads' RB.out
          exact Kd.C_string (P := Tryd.prog) (src := 28) (dst := 9) (e := 5) (c := ca) Tryd.underlying28 Tryd.underlying5 Tryd.underlying9 hCa
        clear hR hb hCb XA YA
        go_wp2_with fail
        clear hv hv2
        obtain ⟨g9, hg9, -, hfill⟩ := R_fill RB.out
        have HFILL := Aside0.mk hfill
        have HG9 := Aside0.mk hg9
        clear hfill hg9
        go_loopw [19] (fun i W => ∃ j : Nat, j ≤ D.length ∧ i = .int .i64 j ∧ Aside0 (Filled g9 D.length Aa W) ∧ Aside0 (Only g9 w11 W)) (fun i _ => D.length - (intOf i).toNat)
        case atStart => exact ⟨0, by omega, rfl, HFILL, ⟨Only.of_below g9 (Below.refl _ _)⟩⟩
        case round =>
          obtain ⟨j, hj, rfl, HFL, HO⟩ := hrel
          by_cases hlj : (j : Int) < (D.length : Int)
          · have dj : decide ((j : Int) < (D.length : Int)) = true := decide_eq_true hlj
            have hij : 0 ≤ (j : Int) ∧ (j : Int) < (D.length : Int) := by omega
            have HMJ := Aside0.mk (show D.length - (j + 1) < D.length - j by omega)
            have HNJ := Aside0.mk (show j + 1 ≤ D.length by omega)
            have HWJ := Aside0.mk (show wrap64 ((j : Int) + 1) = j + 1 by have := HDL.out; unfold wrap64; omega)
            rcases HFL.out with ⟨rfl, cur, hcur, hcn⟩ | ⟨rfl, h0⟩
            · have hsome : ∃ u, World.cell? wr ⟨g9, j, none⟩ = some u := by
                rw [cell_of_heap hcur j]
                exact ⟨_, Array.getElem?_eq_getElem (by omega)⟩
              obtain ⟨u9, hu9⟩ := hsome
              have hz9 : World.frozen? wr ⟨g9, j, none⟩ = false := frozen_of_heap hcur j
              have HFL2 : Aside0 (Filled g9 D.length (some ⟨g9, 0, none⟩) (wr.setCell ⟨g9, j, none⟩ (.int .u8 9))) := ⟨.inl ⟨rfl, _, blk_set hcur _ _, by simp; omega⟩⟩
              have HO2 : Aside0 (Only g9 w11 (wr.setCell ⟨g9, j, none⟩ (.int .u8 9))) := ⟨HO.out.trans (set_only _ _ _ _)⟩
              have hwj := HWJ.out
              clear hcur hcn
              go_wp2_with fail
              go_roundw
              case rel => exact ⟨j + 1, HNJ.out, by first | rfl | (rw [HWJ.out]; rfl), HFL2, HO2⟩
              case measure => first | (rw [HWJ.out]; simpa [intOf] using HMJ.out) | simpa [intOf] using HMJ.out
            · exact absurd hlj (by omega)
          · have dj : decide ((j : Int) < (D.length : Int)) = false := decide_eq_false hlj
            have X12 := Aside0.mk (XB.out.only HO.out (by have := X7.out.lt; have := HG9.out; omega) (fun k hk => by have := HG9.out; omega))
            have Y12 := Aside0.mk (YB.out.only HO.out (by have := Y7.out.lt; have := HG9.out; omega) (fun k hk => by have := HG9.out; omega))
            have B12 := bonly BB HO.out (by have := HVS.out; have := HG9.out; omega)
            have X13 : Aside0 (LK wr w1.heap.size F (now + 1 : Nat) ok S) := ⟨X12.out.mono (fun k hk => hk.1) OKX.out⟩
            have Y13 : Aside0 (RK wr w2.heap.size F ok R7) := ⟨Y12.out.mono (fun k hk => hk.1) OKY.out⟩
            clear XB YB X12 Y12
            go_wp2_with fail
            refine (At_calls wr X13.out (by have := HNW2.out; omega) chn).mono ?_
            rintro e w14 ⟨v14, rfl, hR, hb⟩
            obtain ⟨A14, c14, rfl, h14, hC14⟩ := Kd.R_reads hR
            have X14 := Aside0.mk (X13.out.below hb)
            have Y14 := Aside0.mk (Y13.out.below hb)
            have B14 := Aside0.mk (below_thenB B12.out hb B12.out.size)
            have C14 := Aside0.mk hC14
            have D14 := Aside0.mk h14
            clear hR hb hC14 h14 X13 Y13
            go_wp2_with fail
            refine (RAt_calls w14 Y14.out chn).mono ?_
            rintro e w15 ⟨v15, rfl, hR, hb⟩
            obtain ⟨A15, c15, rfl, h15, hC15⟩ := Kd.R_reads hR
            have X15 := Aside0.mk (X14.out.below hb)
            have Y15 := Aside0.mk (Y14.out.below hb)
            have B15 := Aside0.mk (below_thenB B14.out hb B14.out.size)
            have C15 := Aside0.mk (Kd.C_below C14.out hb)
            have E15 := Aside0.mk hC15
            have D15 := Aside0.mk h15
            clear hR hb hC15 h15 X14 Y14 C14
            go_wp2_with fail
            refine (Same_calls (atF F (now + 1 : Nat) S chn) (atR F R7 chn) A14 A15 c14 c15 w15 C15.out D14.out E15.out D15.out (rel_at REL7.out chn)).mono ?_
            rintro e w16 ⟨rfl, hb⟩
            have X16 := Aside0.mk (X15.out.below hb)
            have Y16 := Aside0.mk (Y15.out.below hb)
            have B16 := Aside0.mk (below_thenB B15.out hb B15.out.size)
            clear hb X15 Y15 C15 E15
            go_wp2_with fail
            refine (At_calls w16 X16.out (by have := HNW2.out; omega) ch).mono ?_
            rintro e w17 ⟨v17, rfl, hR, hb⟩
            obtain ⟨A17, c17, rfl, h17, hC17⟩ := Kd.R_reads hR
            have X17 := Aside0.mk (X16.out.below hb)
            have Y17 := Aside0.mk (Y16.out.below hb)
            have B17 := Aside0.mk (below_thenB B16.out hb B16.out.size)
            have C17 := Aside0.mk hC17
            have D17 := Aside0.mk h17
            clear hR hb hC17 h17 X16 Y16
            go_wp2_with fail
            refine (RAt_calls w17 Y17.out ch).mono ?_
            rintro e w18 ⟨v18, rfl, hR, hb⟩
            obtain ⟨A18, c18, rfl, h18, hC18⟩ := Kd.R_reads hR
            have X18 := Aside0.mk (X17.out.below hb)
            have Y18 := Aside0.mk (Y17.out.below hb)
            have B18 := Aside0.mk (below_thenB B17.out hb B17.out.size)
            have C18 := Aside0.mk (Kd.C_below C17.out hb)
            have E18 := Aside0.mk hC18
            have D18 := Aside0.mk h18
            clear hR hb hC18 h18 X17 Y17 C17
            go_wp2_with fail
            refine (Same_calls (atF F (now + 1 : Nat) S ch) (atR F R7 ch) A17 A18 c17 c18 w18 C18.out D17.out E18.out D18.out (rel_at REL7.out ch)).mono ?_
            rintro e w19 ⟨rfl, hb⟩
            have X19 := Aside0.mk (X18.out.below hb)
            have Y19 := Aside0.mk (Y18.out.below hb)
            have B19 := Aside0.mk (below_thenB B18.out hb B18.out.size)
            clear hb X18 Y18 C18 E18
            have hw64 := HW64.out
            go_wp2_with fail
            go_roundw
            case rel => exact ⟨k + 1, HN.out, rfl, ⟨S, R7, (now + 1), HNP, X19, Y19, REL7⟩, B19⟩
            case measure => simpa [intOf] using HM.out
      | false =>
        obtain ⟨wa, rfl⟩ : ∃ x : World, x = wr := ⟨_, rfl⟩
        have HRT := Aside0.mk (rel_take REL.out chn sq xs HF1.out)
        have u1 := bcellA B5 U.out.2.1
        have u2 := bcellA B5 U.out.2.2.1
        have hxg : wa.heap.size ≠ w1.heap.size := Nat.ne_of_gt X5.out.lt
        have hyg : wa.heap.size ≠ w2.heap.size := Nat.ne_of_gt Y5.out.lt
        go_upto_region 15 with fail
        have BW := Below.refl wa.heap.size wa
        have HB5 := heap_new wa (.cells #[.int .i64 chn, .int .i64 sq, .slice B xs.length cc] 30)
        have BX : Aside0 (Below wa.heap.size wa (wa.alloc (.cells #[.int .i64 chn, .int .i64 sq, .slice B xs.length cc] 30))) := ⟨below_alloc BW _⟩
        obtain ⟨W5, hW⟩ : ∃ W5, W5 = wa.alloc (.cells #[.int .i64 chn, .int .i64 sq, .slice B xs.length cc] 30) := ⟨_, rfl⟩
        have hs5 : W5.heap.size = wa.heap.size + 1 := by rw [hW]; simp
        rw [← hW] at HB5 BX ⊢
        clear hW BW u0 u1 u2 u3
        have HS5 := Aside0.mk hs5
        clear hs5
        have k2 := cell_of_heap (heap_below (balloc ⟨Below.refl _ _⟩ (.cells #[] 5)) HB5) 2
        have k2' : World.cell? (W5.alloc (.cells #[] 5)) ⟨wa.heap.size, 2, none⟩ = some (.slice B xs.length cc) := k2
        have HBA := Aside0.mk HB5
        clear k2 HB5
        have info5 := info5
        have HXG := Aside0.mk hxg
        have HYG := Aside0.mk hyg
        clear hxg hyg
        go_wp2_with ((with_reducible refine gate_builtin (b := .append) (xs := #[.tmp 66, .tmp 68]) rfl ?_); at_builtin; refine Kd.R_append_rows (Kd.int .u8) (w0 := W5) W5.heap.size rfl (.tmp 66) (.tmp 68) 28 5 (.int .u8 0) 1 rfl Tryd.underlying28 info5 rfl (by decide) (by omega) (.slice (some ⟨W5.heap.size, 0, none⟩) 0 0) [] xs B xs.length cc (fun _ => True) (fun _ => False) rfl rfl ?aO ?aR (fun _ _ h => h) (fun _ h => h.elim) (fun _ _ => trivial) ?aB ?aS ?aL ?_)
        case aO => exact R_empty W5
        case aR => exact Kd.C_alloc (Kd.C_below (Kd.C_below HCX.out B5.out) BX.out) _
        case aB => exact below_alloc (Below.refl _ _) _
        try case aS => simp
        case aL => have := HXL.out; simp; omega
        intro v5 w5 ho hb hg hat
        clear k2' info5
        obtain ⟨A5, c5, rfl, -, -⟩ := Kd.R_reads ho
        have HO5 : Aside0 (Kd.R (Kd.int .u8) 5 w5 W5.heap.size (fun _ => True) (.slice A5 xs.length c5) xs) := ⟨by simpa using ho⟩
        have HB5 := heap_below ⟨hb⟩ HBA.out
        have k2 : World.cell? w5 ⟨wa.heap.size, 2, none⟩ = some (.slice B xs.length cc) := cell_of_heap HB5 2
        have z2 := frozen_of_heap HB5 2
        have BW5 := Aside0.mk (below_thenB BX.out hb BX.out.size)
        have SZ5 := Aside0.mk hat
        have HSZ := Aside0.mk (show W5.heap.size + 1 ≤ w5.heap.size by have := hg.size; simpa using this)
        have HB5' := Aside0.mk HB5
        clear ho hb hg hat HB5
        go_upto_region 16 with fail
        clear k2 z2
        have HB6 : Aside0 ((w5.setCell ⟨wa.heap.size, 2, none⟩ (.slice A5 xs.length c5)).heap[wa.heap.size]? = some (.cells #[.int .i64 chn, .int .i64 sq, .slice A5 xs.length c5] 30 (0, 0))) := ⟨by simpa using blk_set HB5'.out 2 (.slice A5 xs.length c5)⟩
        have BW6 : Aside0 (Below wa.heap.size wa (w5.setCell ⟨wa.heap.size, 2, none⟩ (.slice A5 xs.length c5))) := ⟨BW5.out.setCell (Nat.le_refl _) _⟩
        have HR6 : Aside0 (Kd.R (Kd.int .u8) 5 (w5.setCell ⟨wa.heap.size, 2, none⟩ (.slice A5 xs.length c5)) W5.heap.size (fun _ => True) (.slice A5 xs.length c5) xs) := ⟨R_but HO5.out (g := wa.heap.size) (by have := HS5.out; omega) (fun k hk => Below.heap_setCell _ _ _ k hk)⟩
        have HSZ6 : Aside0 (W5.heap.size + 1 ≤ (w5.setCell ⟨wa.heap.size, 2, none⟩ (.slice A5 xs.length c5)).heap.size) := ⟨by have h1 := HSZ.out; have h2 := ((Below.refl 0 w5).setCell (p := ⟨wa.heap.size, 2, none⟩) (Nat.zero_le _) (.slice A5 xs.length c5)).size; omega⟩
        generalize w5.setCell ⟨wa.heap.size, 2, none⟩ (.slice A5 xs.length c5) = w6 at HB6 BW6 HR6 HSZ6 ⊢
        obtain ⟨g7, hg7a, hg7b, hfill⟩ := R_fill HR6.out
        have HG7 := Aside0.mk (show wa.heap.size < g7 ∧ g7 < w6.heap.size by have h1 := HS5.out; have h2 := HSZ6.out; omega)
        have HFILL := Aside0.mk hfill
        clear hg7a hg7b hfill
        have HDL7 := Aside0.mk (show xs.length ≤ 100 by exact HXL.out)
        have B6 := Aside0.mk (below_thenB B5.out BW6.out B5.out.size)
        obtain ⟨okr, hokr⟩ : ∃ okr : Nat → Prop, okr = fun k => ok k ∧ (k < wa.heap.size ∨ w6.heap.size ≤ k) := ⟨_, rfl⟩
        have ORO := Aside0.mk (show ∀ k, okr k → ok k by rw [hokr]; exact fun k hk => hk.1)
        have ORX := Aside0.mk (show ∀ k, okr k → k ≠ w1.heap.size from fun k hk => OKX.out k (ORO.out k hk))
        have ORY := Aside0.mk (show ∀ k, okr k → k ≠ w2.heap.size from fun k hk => OKY.out k (ORO.out k hk))
        have ORF := Aside0.mk (show ∀ k, okr k → k ≠ g7 by rw [hokr]; exact fun k hk => by have := HG7.out; omega)
        have ORB := Aside0.mk (show ∀ W : World, w6.heap.size ≤ W.heap.size → ∀ k, W.heap.size ≤ k → okr k by
          rw [hokr]
          exact fun W h k hk => ⟨OKB.out W (by have h1 := HYG.out; have h2 := Y5.out.lt; have h3 := BW6.out.size; omega) k hk, .inr (by omega)⟩)
        have X6 : Aside0 (LK w6 w1.heap.size F now okr S) := ⟨(X5.out.bound.below BW6.out).mono (by rw [hokr]; exact fun k hk => ⟨hk.1, .inl hk.2⟩) ORX.out⟩
        have Y6 : Aside0 (RK w6 w2.heap.size F okr R) := ⟨(Y5.out.bound.below BW6.out).mono (by rw [hokr]; exact fun k hk => ⟨hk.1, .inl hk.2⟩) ORY.out⟩
        have R6 : Aside0 (Kd.R (Kd.int .u8) 5 w6 W5.heap.size (fun k => wa.heap.size < k ∧ k < w6.heap.size) (.slice A5 xs.length c5) xs) := ⟨Kd.R_mono (Kd.R_bound HR6.out) (fun k hk => ⟨by have h1 := HS5.out; have h2 := hk.2.1; omega, hk.2.2.1⟩)⟩
        have HL6 := Aside0.mk (show w1.heap.size < wa.heap.size ∧ w2.heap.size < wa.heap.size from ⟨X5.out.lt, Y5.out.lt⟩)
        clear hokr X5 Y5
        have HN16 := Aside0.mk (show (now : Int) ≤ 1000000 by have := HNW.out; omega)
        have q0 : World.cell? w6 ⟨wa.heap.size, 0, none⟩ = some (.int .i64 chn) := cell_of_heap HB6.out 0
        have q1 : World.cell? w6 ⟨wa.heap.size, 1, none⟩ = some (.int .i64 sq) := cell_of_heap HB6.out 1
        have q2 : World.cell? w6 ⟨wa.heap.size, 2, none⟩ = some (.slice A5 xs.length c5) := cell_of_heap HB6.out 2
        have u1 := bcellA B6 U.out.2.1
        have u2 := bcellA B6 U.out.2.2.1
        have u3 := bcellA B6 U.out.2.2.2
        have HSK : Aside0 (∀ W, W.heap[wa.heap.size]? = some (.cells #[.int .i64 chn, .int .i64 sq, .slice A5 xs.length c5] 30 (0, 0)) → Below w.heap.size w W → (fun W => W.cell? ⟨wa.heap.size, 0, none⟩ = some (.int .i64 chn) ∧ W.cell? ⟨wa.heap.size, 1, none⟩ = some (.int .i64 sq) ∧ W.cell? ⟨wa.heap.size, 2, none⟩ = some (.slice A5 xs.length c5) ∧ W.cell? ⟨(ad.add (k * 4)).block, (ad.add (k * 4)).off + 1, none⟩ = some (.int .i64 chn) ∧ W.cell? ⟨(ad.add (k * 4)).block, (ad.add (k * 4)).off + 2, none⟩ = some (.int .i64 sq) ∧ W.cell? ⟨(ad.add (k * 4)).block, (ad.add (k * 4)).off + 3, none⟩ = some (.slice B xs.length cc)) W) := ⟨fun W h1 h2 => ⟨cell_of_heap h1 0, cell_of_heap h1 1, cell_of_heap h1 2, bcellA ⟨h2⟩ U.out.2.1, bcellA ⟨h2⟩ U.out.2.2.1, bcellA ⟨h2⟩ U.out.2.2.2⟩⟩
        go_cut [82] (fun v W => v = .bool false ∧ Aside0 (LK W w1.heap.size F now okr (takeS F now S chn sq xs)) ∧ Aside0 (RK W w2.heap.size F okr (takeRS F R chn sq xs)) ∧ Aside0 (W.heap[wa.heap.size]? = some (.cells #[.int .i64 chn, .int .i64 sq, .slice A5 xs.length c5] 30 (0, 0))) ∧ Aside0 (Filled g7 xs.length A5 W) ∧ Aside0 (Below w.heap.size w W) ∧ Aside0 (w6.heap.size ≤ W.heap.size))
        case first =>
          refine wp_region_held_drew (S := (fun W => W.cell? ⟨wa.heap.size, 0, none⟩ = some (.int .i64 chn) ∧ W.cell? ⟨wa.heap.size, 1, none⟩ = some (.int .i64 sq) ∧ W.cell? ⟨wa.heap.size, 2, none⟩ = some (.slice A5 xs.length c5) ∧ W.cell? ⟨(ad.add (k * 4)).block, (ad.add (k * 4)).off + 1, none⟩ = some (.int .i64 chn) ∧ W.cell? ⟨(ad.add (k * 4)).block, (ad.add (k * 4)).off + 2, none⟩ = some (.int .i64 sq) ∧ W.cell? ⟨(ad.add (k * 4)).block, (ad.add (k * 4)).off + 3, none⟩ = some (.slice B xs.length cc))) (by kernel_rfl) ?_ (fun hHeld => ?_)
          · exact HSK.out _ HB6.out (below_drew B6.out)
          refine wpAnyH_take (i := 0) (oi := { dst := some 71, op := Go.Op.move (Go.Operand.tmp 8), type := 24, pos := "law.go:55", after := #[], guard := none }) (v := ?vz0) rfl (by kernel_rfl) (by kernel_rfl) (by kernel_rfl) (fun _ _ _ h => h) (Or.inl ⟨by rfl, ?yz0⟩) (by assumption) ?rz0
          case yz0 => ((intro w hSw; (try dsimp only at hSw); go_simp) <;> with_reducible rfl)
          try simp only [Act.put, List.setIfInBounds_toArray, List.set_cons_zero, List.set_cons_succ]
          refine wpAnyH_take (i := 1) (oi := { dst := some 72, op := Go.Op.load 30 (Go.Operand.tmp 11), type := 30, pos := "law.go:55", after := #[], guard := none }) (v := ?vz1) rfl (by kernel_rfl) (by kernel_rfl) (by kernel_rfl) (fun _ _ _ h => h) (Or.inl ⟨by rfl, ?yz1⟩) (by assumption) ?rz1
          case yz1 => ((intro w hSw; (try dsimp only at hSw); go_simp) <;> with_reducible rfl)
          try simp only [Act.put, List.setIfInBounds_toArray, List.set_cons_zero, List.set_cons_succ]
          refine wpAnyH_take (i := 4) (oi := { dst := some 75, op := Go.Op.move (Go.Operand.tmp 9), type := 26, pos := "law.go:55", after := #[], guard := none }) (v := ?vz4) rfl (by kernel_rfl) (by kernel_rfl) (by kernel_rfl) (fun _ _ _ h => h) (Or.inl ⟨by rfl, ?yz4⟩) (by assumption) ?rz4
          case yz4 => ((intro w hSw; (try dsimp only at hSw); go_simp) <;> with_reducible rfl)
          try simp only [Act.put, List.setIfInBounds_toArray, List.set_cons_zero, List.set_cons_succ]
          refine wpAnyH_take (i := 5) (oi := { dst := some 76, op := Go.Op.move (Go.Operand.tmp 1), type := 22, pos := "law.go:55", after := #[], guard := none }) (v := ?vz5) rfl (by kernel_rfl) (by kernel_rfl) (by kernel_rfl) (fun _ _ _ h => h) (Or.inl ⟨by rfl, ?yz5⟩) (by assumption) ?rz5
          case yz5 => ((intro w hSw; (try dsimp only at hSw); go_simp) <;> with_reducible rfl)
          try simp only [Act.put, List.setIfInBounds_toArray, List.set_cons_zero, List.set_cons_succ]
          refine wpAnyH_take (i := 6) (oi := { dst := some 77, op := Go.Op.move (Go.Operand.tmp 10), type := 3, pos := "law.go:55", after := #[], guard := none }) (v := ?vz6) rfl (by kernel_rfl) (by kernel_rfl) (by kernel_rfl) (fun _ _ _ h => h) (Or.inl ⟨by rfl, ?yz6⟩) (by assumption) ?rz6
          case yz6 => ((intro w hSw; (try dsimp only at hSw); go_simp) <;> with_reducible rfl)
          try simp only [Act.put, List.setIfInBounds_toArray, List.set_cons_zero, List.set_cons_succ]
          refine wpAnyH_take (i := 7) (oi := { dst := some 78, op := Go.Op.indexAddr 22 (Go.Operand.tmp 76) (Go.Operand.tmp 77), type := 0, pos := "law.go:55", after := #[{ on := 5, ground := Go.Ground.data }, { on := 6, ground := Go.Ground.data }], guard := none }) (v := ?vz7) rfl (by kernel_rfl) (by kernel_rfl) (by kernel_rfl) (fun _ _ _ h => h) (Or.inl ⟨by rfl, ?yz7⟩) (by assumption) ?rz7
          case yz7 => ((intro w hSw; (try dsimp only at hSw); go_simp) <;> with_reducible rfl)
          try simp only [Act.put, List.setIfInBounds_toArray, List.set_cons_zero, List.set_cons_succ]
          refine wpAnyH_take (i := 8) (oi := { dst := some 79, op := Go.Op.fieldAddr 32 (Go.Operand.tmp 78) 1, type := 0, pos := "law.go:55", after := #[{ on := 7, ground := Go.Ground.data }], guard := none }) (v := ?vz8) rfl (by kernel_rfl) (by kernel_rfl) (by kernel_rfl) (fun _ _ _ h => h) (Or.inl ⟨by rfl, ?yz8⟩) (by assumption) ?rz8
          case yz8 => ((intro w hSw; (try dsimp only at hSw); go_simp) <;> with_reducible rfl)
          try simp only [Act.put, List.setIfInBounds_toArray, List.set_cons_zero, List.set_cons_succ]
          refine wpAnyH_take (i := 9) (oi := { dst := some 80, op := Go.Op.load 30 (Go.Operand.tmp 79), type := 30, pos := "law.go:55", after := #[{ on := 8, ground := Go.Ground.data }], guard := none }) (v := ?vz9) rfl (by kernel_rfl) (by kernel_rfl) (by kernel_rfl) (fun _ _ _ h => h) (Or.inl ⟨by rfl, ?yz9⟩) (by assumption) ?rz9
          case yz9 => ((intro w hSw; (try dsimp only at hSw); go_simp) <;> with_reducible rfl)
          try simp only [Act.put, List.setIfInBounds_toArray, List.set_cons_zero, List.set_cons_succ]
          refine wpAnyH_ready (rs := [2]) (by kernel_rfl) (by simp) ?_
          refine AllReadyH.cons (o := { dst := some 73, op := Go.Op.call { callee := Go.Callee.value (Go.Operand.func 15), args := #[Go.Operand.tmp 71, Go.Operand.tmp 72], argTypes := #[24, 30] }, type := 36, pos := "law.go:55", after := #[{ on := 0, ground := Go.Ground.data }, { on := 1, ground := Go.Ground.data }], guard := none }) rfl (fun K hK => ?kz2) AllReadyH.nil
          go_simp
          have X6d := Aside0.mk (X6.out.below (below_drew (Below.refl _ _)))
          have Y6d := Aside0.mk (Y6.out.below (below_drew (Below.refl _ _)))
          have R6d := Kd.R_drew R6.out
          obtain ⟨_, _, hC6⟩ := Kd.R_reads' R6d
          refine (TakeO w6.drew X6d.out (ORB.out w6.drew (by simp)) HN16.out chn sq A5 xs.length c5 xs hC6 (by have := HXL.out; omega)).mono ?_
          rintro e w7 ⟨v7, rfl, hE, hL, hO⟩
          have X7 := Aside0.mk hL
          have Y7 := Aside0.mk (Y6d.out.only hO (Ne.symm HNX.out) ORX.out)
          have B6d := Aside0.mk (below_drew B6.out)
          have B7 := bonly B6d hO hg1
          have E7 := Aside0.mk hE
          have HB7 := Aside0.mk (heap_only hO HXG.out (show w6.drew.heap[wa.heap.size]? = _ from HB6.out))
          have R7 := Aside0.mk (R_only R6d hO (fun k hk => by have h1 := HL6.out; omega))
          have HSZ7 := Aside0.mk (show w6.heap.size ≤ w7.heap.size from hO.size)
          clear hE hL hO hC6 R6d X6d Y6d B6d
          refine hK.out _ _ ?_ (fun hHeld => ?_)
          · exact HSK.out _ HB7.out B7.out
          clear hK K
          try simp only [Act.put, List.setIfInBounds_toArray, List.set_cons_zero, List.set_cons_succ]
          refine wpAnyH_ready (rs := [3]) (by kernel_rfl) (by simp) ?_
          refine AllReadyH.cons (o := { dst := some 74, op := Go.Op.call { callee := Go.Callee.value (Go.Operand.func 14), args := #[Go.Operand.tmp 73], argTypes := #[36] }, type := 33, pos := "law.go:55", after := #[{ on := 2, ground := Go.Ground.data }, { on := 2, ground := Go.Ground.chain }], guard := none }) rfl (fun K hK => ?kz3) AllReadyH.nil
          go_simp
          refine (Code_calls v7 _ w7 (HG.out.below B7) E7.out).mono ?_
          rintro e w8 ⟨rfl, hb⟩
          have B8 := Aside0.mk (below_thenB B7.out hb B7.out.size)
          have X8 := Aside0.mk (X7.out.below hb)
          have Y8 := Aside0.mk (Y7.out.below hb)
          have HB8 := Aside0.mk (heap_below ⟨hb⟩ HB7.out)
          have R8 := Aside0.mk (Kd.R_below R7.out hb)
          have HSZ8 := Aside0.mk (show w6.heap.size ≤ w8.heap.size from Nat.le_trans HSZ7.out hb.size)
          clear hb
          refine hK.out _ _ ?_ (fun hHeld => ?_)
          · exact HSK.out _ HB8.out B8.out
          clear hK K
          try simp only [Act.put, List.setIfInBounds_toArray, List.set_cons_zero, List.set_cons_succ]
          refine wpAnyH_ready (rs := [10]) (by kernel_rfl) (by simp) ?_
          refine AllReadyH.cons (o := { dst := some 81, op := Go.Op.call { callee := Go.Callee.value (Go.Operand.func 16), args := #[Go.Operand.tmp 75, Go.Operand.tmp 80], argTypes := #[26, 30] }, type := 33, pos := "law.go:55", after := #[{ on := 4, ground := Go.Ground.data }, { on := 9, ground := Go.Ground.data }, { on := 3, ground := Go.Ground.chain }], guard := none }) rfl (fun K hK => ?kz10) AllReadyH.nil
          go_simp
          refine (RTake_calls w8 Y8.out (ORB.out w8 HSZ8.out) chn sq B cc xs (Kd.C_below HCX.out B8.out) HXC.out HXL.out).mono ?_
          rintro e w9 ⟨rfl, hL, hO⟩
          have Y9 := Aside0.mk hL
          have X9 := Aside0.mk (X8.out.only hO HNX.out ORY.out)
          have B9 := bonly B8 hO hg2
          have HB9 := Aside0.mk (heap_only hO HYG.out HB8.out)
          have R9 := R_only R8.out hO (fun k hk => by have h1 := HL6.out; omega)
          have HSZ9 := Aside0.mk (show w6.heap.size ≤ w9.heap.size from Nat.le_trans HSZ8.out hO.size)
          have HF9 : Aside0 (Filled g7 xs.length A5 w9) := by
            rcases HFILL.out with ⟨rfl, cur, h1, h2⟩ | h1
            · obtain ⟨g9, hg9, -, hf⟩ := R_fill R9
              rcases hf with ⟨he, hf⟩ | ⟨he, hf⟩
              · injection he with he
                injection he with he
                subst he
                exact ⟨.inl ⟨rfl, hf⟩⟩
              · exact absurd he (by simp)
            · exact ⟨.inr h1⟩
          clear hL hO R9
          refine hK.out _ _ ?_ (fun hHeld => ?_)
          · exact HSK.out _ HB9.out B9.out
          clear hK K
          try simp only [Act.put, List.setIfInBounds_toArray, List.set_cons_zero, List.set_cons_succ]
          refine wpAnyH_take (i := 11) (oi := { dst := some 82, op := Go.Op.binOp Go.BinOp.neq 33 (Go.Operand.tmp 74) (Go.Operand.tmp 81) 33, type := 4, pos := "law.go:55", after := #[{ on := 3, ground := Go.Ground.data }, { on := 10, ground := Go.Ground.data }], guard := none }) (v := ?vz11) rfl (by kernel_rfl) (by kernel_rfl) (by kernel_rfl) (fun _ _ _ h => h) (Or.inl ⟨by rfl, ?yz11⟩) (by assumption) ?rz11
          case yz11 => ((intro w hSw; (try dsimp only at hSw); go_simp) <;> with_reducible rfl)
          try simp only [Act.put, List.setIfInBounds_toArray, List.set_cons_zero, List.set_cons_succ]
          refine wpAnyH_done (by kernel_rfl) ?_ _
          go_wp2_with fail
          go_meet
          case rel => exact ⟨by rw [HRT.out.1]; simp, X9, Y9, HB9, HF9, B9, HSZ9⟩
        case rest =>
          obtain ⟨rfl, X9, Y9, HB9, HF9, B9, HSZ9⟩ := hcut
          obtain ⟨w9, rfl⟩ : ∃ x : World, x = wc := ⟨_, rfl⟩
          have REL9 := Aside0.mk HRT.out.2
          generalize takeS F now S chn sq xs = S9 at X9 REL9
          generalize takeRS F R chn sq xs = R9 at Y9 REL9
          clear q0 q1 q2 u1 u2 u3 X6 Y6
          go_wp2_with fail
          go_loopw [12] (fun i W => ∃ j : Nat, j ≤ xs.length ∧ i = .int .i64 j ∧ Aside0 (Filled g7 xs.length A5 W) ∧ Aside0 (Only g7 w9 W)) (fun i _ => xs.length - (intOf i).toNat)
          case atStart => exact ⟨0, by omega, rfl, HF9, ⟨Only.of_below g7 (Below.refl _ _)⟩⟩
          case round =>
            obtain ⟨j, hj, rfl, HFL, HO⟩ := hrel
            have HBX := heap_only HO.out (by have := HG7.out; omega) HB9.out
            have q2 : World.cell? wr ⟨wa.heap.size, 2, none⟩ = some (.slice A5 xs.length c5) := cell_of_heap HBX 2
            clear HBX
            by_cases hlj : (j : Int) < (xs.length : Int)
            · have dj : decide ((j : Int) < (xs.length : Int)) = true := decide_eq_true hlj
              have hij : 0 ≤ (j : Int) ∧ (j : Int) < (xs.length : Int) := by omega
              have HMJ := Aside0.mk (show xs.length - (j + 1) < xs.length - j by omega)
              have HNJ := Aside0.mk (show j + 1 ≤ xs.length by omega)
              have HWJ := Aside0.mk (show wrap64 ((j : Int) + 1) = j + 1 by have := HXL.out; unfold wrap64; omega)
              rcases HFL.out with ⟨rfl, cur, hcur, hcn⟩ | ⟨rfl, h0⟩
              · have hsome : ∃ u, World.cell? wr ⟨g7, j, none⟩ = some u := by
                  rw [cell_of_heap hcur j]
                  exact ⟨_, Array.getElem?_eq_getElem (by omega)⟩
                obtain ⟨u9, hu9⟩ := hsome
                have hz9 : World.frozen? wr ⟨g7, j, none⟩ = false := frozen_of_heap hcur j
                have HFL2 : Aside0 (Filled g7 xs.length (some ⟨g7, 0, none⟩) (wr.setCell ⟨g7, j, none⟩ (.int .u8 7))) := ⟨.inl ⟨rfl, _, blk_set hcur _ _, by simp; omega⟩⟩
                have HO2 : Aside0 (Only g7 w9 (wr.setCell ⟨g7, j, none⟩ (.int .u8 7))) := ⟨HO.out.trans (set_only _ _ _ _)⟩
                have hwj := HWJ.out
                clear hcur hcn
                go_wp2_with fail
                go_roundw
                case rel => exact ⟨j + 1, HNJ.out, by first | rfl | (rw [HWJ.out]; rfl), HFL2, HO2⟩
                case measure => first | (rw [HWJ.out]; simpa [intOf] using HMJ.out) | simpa [intOf] using HMJ.out
              · exact absurd hlj (by omega)
            · have dj : decide ((j : Int) < (xs.length : Int)) = false := decide_eq_false hlj
              obtain ⟨w10a, rfl⟩ : ∃ x : World, x = wr := ⟨_, rfl⟩
              have X10 : Aside0 (LK w10a w1.heap.size F now ok S9) := ⟨(X9.out.only HO.out (by have h1 := HG7.out; have h2 := HL6.out; omega) ORF.out).mono ORO.out OKX.out⟩
              have Y10 : Aside0 (RK w10a w2.heap.size F ok R9) := ⟨(Y9.out.only HO.out (by have h1 := HG7.out; have h2 := HL6.out; omega) ORF.out).mono ORO.out OKY.out⟩
              have B10 := bonly B9 HO.out (by have h1 := HG7.out; have h2 := HL6.out; omega)
              have HNW2 := Aside0.mk (show (now : Int) ≤ 1000000 by have := HNW.out; omega)
              have u1 := bcellA B10 U.out.2.1
              clear X9 Y9
              go_wp2_with fail
              clear u1
              refine (Fresh_calls w10a X10.out (by have := HNW2.out; omega) chn).mono ?_
              rintro e w10 ⟨va, rfl, hR, hb⟩
              obtain ⟨Aa, ca, rfl, hca, -⟩ := Kd.R_reads hR
              have XA := Aside0.mk (X10.out.bound.below hb)
              have YA := Aside0.mk (Y10.out.bound.below hb)
              have BA := Aside0.mk (below_thenB B10.out hb B10.out.size)
              have RA := Aside0.mk (R_from hR)
              have HVS := Aside0.mk B10.out.size
              have HCA := Aside0.mk hca
              clear hR hb hca
              have hf := rel_fresh REL9.out chn
              have HRF := Aside0.mk hf
              clear hf
              have HDL := Aside0.mk (dataF_len X10.out chn)
              generalize hD : dataF F now S9 chn = D at RA HRF HCA HDL ⊢
              clear hD
              generalize hI : isF F now S9 chn = isb at HRF ⊢
              clear hI
              go_wp2_with fail
              have hA := RFresh_calls w10 YA.out chn
              rw [HRF.out.1, HRF.out.2] at hA
              refine hA.mono ?_
              clear hA
              rintro e w11 ⟨vb, rfl, hR, hb⟩
              obtain ⟨Ab, cb, rfl, -, hCb⟩ := Kd.R_reads hR
              have XB := Aside0.mk (XA.out.below hb)
              have YB := Aside0.mk (YA.out.below hb)
              have BB := Aside0.mk (below_thenB BA.out hb BA.out.size)
              have RB := Aside0.mk (Kd.R_below RA.out hb)
              have hv2 : (convert 28 9 (.slice Ab D.length cb)).run Tryd.prog w11 = .ok (.string (strOfNums D)) w11 := Kd.C_string (P := Tryd.prog) (src := 28) (dst := 9) (e := 5) (c := cb) Tryd.underlying28 Tryd.underlying5 Tryd.underlying9 hCb
              have hv : (convert 28 9 (.slice Aa D.length ca)).run Tryd.prog w11 = .ok (.string (strOfNums D)) w11 := by
                obtain ⟨_, _, hCa⟩ := Kd.R_reads' RB.out
                exact Kd.C_string (P := Tryd.prog) (src := 28) (dst := 9) (e := 5) (c := ca) Tryd.underlying28 Tryd.underlying5 Tryd.underlying9 hCa
              clear hR hb hCb XA YA
              go_wp2_with fail
              clear hv hv2
              obtain ⟨g9, hg9, -, hfill⟩ := R_fill RB.out
              have HFILL := Aside0.mk hfill
              have HG9 := Aside0.mk hg9
              clear hfill hg9
              go_loopw [19] (fun i W => ∃ j : Nat, j ≤ D.length ∧ i = .int .i64 j ∧ Aside0 (Filled g9 D.length Aa W) ∧ Aside0 (Only g9 w11 W)) (fun i _ => D.length - (intOf i).toNat)
              case atStart => exact ⟨0, by omega, rfl, HFILL, ⟨Only.of_below g9 (Below.refl _ _)⟩⟩
              case round =>
                obtain ⟨j, hj, rfl, HFL, HO⟩ := hrel
                by_cases hlj : (j : Int) < (D.length : Int)
                · have dj : decide ((j : Int) < (D.length : Int)) = true := decide_eq_true hlj
                  have hij : 0 ≤ (j : Int) ∧ (j : Int) < (D.length : Int) := by omega
                  have HMJ := Aside0.mk (show D.length - (j + 1) < D.length - j by omega)
                  have HNJ := Aside0.mk (show j + 1 ≤ D.length by omega)
                  have HWJ := Aside0.mk (show wrap64 ((j : Int) + 1) = j + 1 by have := HDL.out; unfold wrap64; omega)
                  rcases HFL.out with ⟨rfl, cur, hcur, hcn⟩ | ⟨rfl, h0⟩
                  · have hsome : ∃ u, World.cell? wr ⟨g9, j, none⟩ = some u := by
                      rw [cell_of_heap hcur j]
                      exact ⟨_, Array.getElem?_eq_getElem (by omega)⟩
                    obtain ⟨u9, hu9⟩ := hsome
                    have hz9 : World.frozen? wr ⟨g9, j, none⟩ = false := frozen_of_heap hcur j
                    have HFL2 : Aside0 (Filled g9 D.length (some ⟨g9, 0, none⟩) (wr.setCell ⟨g9, j, none⟩ (.int .u8 9))) := ⟨.inl ⟨rfl, _, blk_set hcur _ _, by simp; omega⟩⟩
                    have HO2 : Aside0 (Only g9 w11 (wr.setCell ⟨g9, j, none⟩ (.int .u8 9))) := ⟨HO.out.trans (set_only _ _ _ _)⟩
                    have hwj := HWJ.out
                    clear hcur hcn
                    go_wp2_with fail
                    go_roundw
                    case rel => exact ⟨j + 1, HNJ.out, by first | rfl | (rw [HWJ.out]; rfl), HFL2, HO2⟩
                    case measure => first | (rw [HWJ.out]; simpa [intOf] using HMJ.out) | simpa [intOf] using HMJ.out
                  · exact absurd hlj (by omega)
                · have dj : decide ((j : Int) < (D.length : Int)) = false := decide_eq_false hlj
                  have X12 := Aside0.mk (XB.out.only HO.out (by have := X10.out.lt; have := HG9.out; omega) (fun k hk => by have := HG9.out; omega))
                  have Y12 := Aside0.mk (YB.out.only HO.out (by have := Y10.out.lt; have := HG9.out; omega) (fun k hk => by have := HG9.out; omega))
                  have B12 := bonly BB HO.out (by have := HVS.out; have := HG9.out; omega)
                  have X13 : Aside0 (LK wr w1.heap.size F now ok S9) := ⟨X12.out.mono (fun k hk => hk.1) OKX.out⟩
                  have Y13 : Aside0 (RK wr w2.heap.size F ok R9) := ⟨Y12.out.mono (fun k hk => hk.1) OKY.out⟩
                  clear XB YB X12 Y12
                  go_wp2_with fail
                  refine (At_calls wr X13.out (by have := HNW2.out; omega) chn).mono ?_
                  rintro e w14 ⟨v14, rfl, hR, hb⟩
                  obtain ⟨A14, c14, rfl, h14, hC14⟩ := Kd.R_reads hR
                  have X14 := Aside0.mk (X13.out.below hb)
                  have Y14 := Aside0.mk (Y13.out.below hb)
                  have B14 := Aside0.mk (below_thenB B12.out hb B12.out.size)
                  have C14 := Aside0.mk hC14
                  have D14 := Aside0.mk h14
                  clear hR hb hC14 h14 X13 Y13
                  go_wp2_with fail
                  refine (RAt_calls w14 Y14.out chn).mono ?_
                  rintro e w15 ⟨v15, rfl, hR, hb⟩
                  obtain ⟨A15, c15, rfl, h15, hC15⟩ := Kd.R_reads hR
                  have X15 := Aside0.mk (X14.out.below hb)
                  have Y15 := Aside0.mk (Y14.out.below hb)
                  have B15 := Aside0.mk (below_thenB B14.out hb B14.out.size)
                  have C15 := Aside0.mk (Kd.C_below C14.out hb)
                  have E15 := Aside0.mk hC15
                  have D15 := Aside0.mk h15
                  clear hR hb hC15 h15 X14 Y14 C14
                  go_wp2_with fail
                  refine (Same_calls (atF F now S9 chn) (atR F R9 chn) A14 A15 c14 c15 w15 C15.out D14.out E15.out D15.out (rel_at REL9.out chn)).mono ?_
                  rintro e w16 ⟨rfl, hb⟩
                  have X16 := Aside0.mk (X15.out.below hb)
                  have Y16 := Aside0.mk (Y15.out.below hb)
                  have B16 := Aside0.mk (below_thenB B15.out hb B15.out.size)
                  clear hb X15 Y15 C15 E15
                  go_wp2_with fail
                  refine (At_calls w16 X16.out (by have := HNW2.out; omega) ch).mono ?_
                  rintro e w17 ⟨v17, rfl, hR, hb⟩
                  obtain ⟨A17, c17, rfl, h17, hC17⟩ := Kd.R_reads hR
                  have X17 := Aside0.mk (X16.out.below hb)
                  have Y17 := Aside0.mk (Y16.out.below hb)
                  have B17 := Aside0.mk (below_thenB B16.out hb B16.out.size)
                  have C17 := Aside0.mk hC17
                  have D17 := Aside0.mk h17
                  clear hR hb hC17 h17 X16 Y16
                  go_wp2_with fail
                  refine (RAt_calls w17 Y17.out ch).mono ?_
                  rintro e w18 ⟨v18, rfl, hR, hb⟩
                  obtain ⟨A18, c18, rfl, h18, hC18⟩ := Kd.R_reads hR
                  have X18 := Aside0.mk (X17.out.below hb)
                  have Y18 := Aside0.mk (Y17.out.below hb)
                  have B18 := Aside0.mk (below_thenB B17.out hb B17.out.size)
                  have C18 := Aside0.mk (Kd.C_below C17.out hb)
                  have E18 := Aside0.mk hC18
                  have D18 := Aside0.mk h18
                  clear hR hb hC18 h18 X17 Y17 C17
                  go_wp2_with fail
                  refine (Same_calls (atF F now S9 ch) (atR F R9 ch) A17 A18 c17 c18 w18 C18.out D17.out E18.out D18.out (rel_at REL9.out ch)).mono ?_
                  rintro e w19 ⟨rfl, hb⟩
                  have X19 := Aside0.mk (X18.out.below hb)
                  have Y19 := Aside0.mk (Y18.out.below hb)
                  have B19 := Aside0.mk (below_thenB B18.out hb B18.out.size)
                  clear hb X18 Y18 C18 E18
                  have hw64 := HW64.out
                  go_wp2_with fail
                  go_roundw
                  case rel => exact ⟨k + 1, HN.out, rfl, ⟨S9, R9, now, HNO, X19, Y19, REL9⟩, B19⟩
                  case measure => simpa [intOf] using HM.out
    · have dk : decide ((k : Int) < (l.length : Int)) = false := decide_eq_false hlt
      go_wp2_with fail
      go_ret
      exact ⟨rfl, B5.out⟩

theorem plays_walk (f : Int) (l : List Act1) (A : Option Addr) (c : Nat) (ch : Int) (w : World) (_ : (Lit.int .i64 f).wf = true) (hC : Kd.C kAct w A l.length l) (hl : l.length ≤ c) (_ : (Lit.int .i64 ch).wf = true) (hg : Gerr w) : Calls Tryd.prog 3 #[.int .i64 f, .slice A l.length c, .int .i64 ch] w fun e w' => e = .returned (.bool true) ∧ Below w.heap.size w w' :=
  plays_calls f A c l ch w hC hg
end Go.Proofs.YtcikcehphpbfhaaDoor.PE

