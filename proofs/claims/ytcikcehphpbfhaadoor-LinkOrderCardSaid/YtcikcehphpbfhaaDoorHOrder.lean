/- link: LinkOrder's walk. -/
import Derived.Test.YtcikcehphpbfhaaDoorHNone
import Derived.DataShut
namespace Go.Proofs.YtcikcehphpbfhaaDoor.PE
open Go.RowKit Go.Extern.Stop Go.Stop Go.Extern Go.Proofs.YtcikcehphpbfhaaDoorW.PrintWords Go.Proofs.YtcikcehphpbfhaaDoorW.PrintLast Go.Proofs.YtcikcehphpbfhaaDoorW.PrintMore
set_option linter.unusedVariables false
set_option linter.unusedSimpArgs false
theorem C_oneB {W w : World} {x : Int} (hb : Below (w.alloc (.cells #[.int .u8 x] 5)).heap.size (w.alloc (.cells #[.int .u8 x] 5)) W) : Kd.C (Kd.int .u8) W (some ⟨w.heap.size, 0, none⟩) 1 [x] := Kd.C_below (C_one w x) hb
theorem wf_u8 {p : Int} (h : (Lit.int .u8 p).wf = true) : 0 ≤ p ∧ p ≤ 255 := by
  have h2 := (Lit.wf_int_iff .u8 p).1 h
  have e1 : IntKind.min .u8 = 0 := by decide
  have e2 : IntKind.max .u8 = 255 := by decide
  rw [e1, e2] at h2
  exact h2
theorem take_after (S1 : Nat → Ch) (F n ch p q : Int) (b : Bool) (hS : S1 = upd (fun _ => Ch.zero) ch.toNat ⟨true, p, 0, [1]⟩) (hc : 0 ≤ ch ∧ ch ≤ 15) (hp : 0 ≤ p ∧ p ≤ 255) (hq : 0 ≤ q ∧ q ≤ 255) (hb : isF F n S1 ch = b) :
    takeE F n S1 ch q 1 = if b = true ∧ ((q - p) % 256 < 1 ∨ 16 < (q - p) % 256) then 4 else 0 := by
  have ha : ¬ argF ch q 1 := by unfold argF; omega
  have hs : S1 ch.toNat = ⟨true, p, 0, [1]⟩ := by rw [hS, upd_same]
  have hf : (S1 ch.toNat).fresh F n = b := by rw [← hb]; unfold isF; rw [decide_eq_true hc, Bool.true_and]
  unfold takeE oldF
  rw [if_neg ha, hf, hs]
  have e : (q - p + 256) % 256 = (q - p) % 256 := by omega
  show (if (b && (decide ((q - p + 256) % 256 = 0) || decide (16 < (q - p + 256) % 256))) = true then (4 : Int) else 0) = _
  rw [e]
  by_cases h : b = true ∧ ((q - p) % 256 < 1 ∨ 16 < (q - p) % 256)
  · rw [if_pos h, if_pos]
    rcases h.2 with h2 | h2
    · rw [h.1, decide_eq_true (show (q - p) % 256 = 0 by omega)]; rfl
    · rw [h.1, decide_eq_true h2]; simp
  · rw [if_neg h, if_neg]
    cases b with
    | false => simp
    | true =>
      have h' : ¬ ((q - p) % 256 < 1 ∨ 16 < (q - p) % 256) := fun x => h ⟨rfl, x⟩
      simp; omega
theorem fresh_new (S1 : Nat → Ch) (F n ch q : Int) (xs : List Int) (hF : 1 ≤ F ∧ F ≤ 6000) (hc : 0 ≤ ch) (hc2 : ch ≤ 15) :
    isF F n (upd S1 ch.toNat ⟨true, q, n, xs⟩) ch = true ∧ dataF F n (upd S1 ch.toNat ⟨true, q, n, xs⟩) ch = xs ∧ (atF F n (upd S1 ch.toNat ⟨true, q, n, xs⟩) ch).age = 0 := by
  have h1 : isF F n (upd S1 ch.toNat ⟨true, q, n, xs⟩) ch = true := by
    unfold isF Ch.fresh
    rw [upd_same, decide_eq_true (And.intro hc hc2)]
    simp; omega
  refine ⟨h1, by unfold dataF; rw [h1, upd_same]; rfl, ?_⟩
  unfold atF
  rw [upd_same, if_pos ⟨⟨hc, hc2⟩, rfl⟩]
  simp [Ch.age]; omega
set_option maxHeartbeats 16000000 in
set_option maxRecDepth 100000 in
theorem order_calls (f ch p q n : Int) (w : World) (hp : 0 ≤ p ∧ p ≤ 255) (hq : 0 ≤ q ∧ q ≤ 255) (hg : Gerr w) : Calls Tryd.prog 5 #[.int .i64 f, .int .i64 ch, .int .u8 p, .int .u8 q, .int .i64 n] w fun e w' => e = .returned (.bool true) ∧ Below w.heap.size w w' := by
  have HG := Aside0.mk hg
  have HP := Aside0.mk hp
  have HQ := Aside0.mk hq
  have HWP := Aside0.mk (show wrap64 p = p by unfold wrap64; omega)
  have HWQ := Aside0.mk (show wrap64 q = q by unfold wrap64; omega)
  clear hg hp hq
  by_cases h0 : ch < 0
  · have dh0 : decide (ch < 0) = true := decide_eq_true h0
    go_enter Tryd.func5, Tryd.ntmps5
    go_wp2_with fail
    refine (small_calls w HG.out).mono ?_
    rintro e w1 ⟨rfl, hb⟩
    have B1 := Aside0.mk hb
    clear hb
    go_wp2_with fail
    refine (NewN f w1).mono ?_
    rintro e w2 ⟨rfl, hL, hb⟩
    have B2 := Aside0.mk (below_thenB B1.out hb B1.out.size)
    have L2 := Aside0.mk hL
    clear hL hb
    generalize hF : max 1 (min f 6000) = F at L2
    have hF1 : 1 ≤ F ∧ F ≤ 6000 := by omega
    have hg1 : w.heap.size ≤ w1.heap.size := B1.out.size
    go_wp2_with fail
    go_ret
    exact ⟨rfl, B2.out⟩
  have dh0 : decide (ch < 0) = false := decide_eq_false h0
  by_cases h1 : 15 < ch
  · have dh1 : decide (15 < ch) = true := decide_eq_true h1
    go_enter Tryd.func5, Tryd.ntmps5
    go_wp2_with fail
    refine (small_calls w HG.out).mono ?_
    rintro e w1 ⟨rfl, hb⟩
    have B1 := Aside0.mk hb
    clear hb
    go_wp2_with fail
    refine (NewN f w1).mono ?_
    rintro e w2 ⟨rfl, hL, hb⟩
    have B2 := Aside0.mk (below_thenB B1.out hb B1.out.size)
    have L2 := Aside0.mk hL
    clear hL hb
    generalize hF : max 1 (min f 6000) = F at L2
    have hF1 : 1 ≤ F ∧ F ≤ 6000 := by omega
    have hg1 : w.heap.size ≤ w1.heap.size := B1.out.size
    go_wp2_with fail
    go_ret
    exact ⟨rfl, B2.out⟩
  have dh1 : decide (15 < ch) = false := decide_eq_false h1
  by_cases h2 : n < 0
  · have dh2 : decide (n < 0) = true := decide_eq_true h2
    go_enter Tryd.func5, Tryd.ntmps5
    go_wp2_with fail
    refine (small_calls w HG.out).mono ?_
    rintro e w1 ⟨rfl, hb⟩
    have B1 := Aside0.mk hb
    clear hb
    go_wp2_with fail
    refine (NewN f w1).mono ?_
    rintro e w2 ⟨rfl, hL, hb⟩
    have B2 := Aside0.mk (below_thenB B1.out hb B1.out.size)
    have L2 := Aside0.mk hL
    clear hL hb
    generalize hF : max 1 (min f 6000) = F at L2
    have hF1 : 1 ≤ F ∧ F ≤ 6000 := by omega
    have hg1 : w.heap.size ≤ w1.heap.size := B1.out.size
    go_wp2_with fail
    go_ret
    exact ⟨rfl, B2.out⟩
  have dh2 : decide (n < 0) = false := decide_eq_false h2
  by_cases h3 : 7000 < n
  · have dh3 : decide (7000 < n) = true := decide_eq_true h3
    go_enter Tryd.func5, Tryd.ntmps5
    go_wp2_with fail
    refine (small_calls w HG.out).mono ?_
    rintro e w1 ⟨rfl, hb⟩
    have B1 := Aside0.mk hb
    clear hb
    go_wp2_with fail
    refine (NewN f w1).mono ?_
    rintro e w2 ⟨rfl, hL, hb⟩
    have B2 := Aside0.mk (below_thenB B1.out hb B1.out.size)
    have L2 := Aside0.mk hL
    clear hL hb
    generalize hF : max 1 (min f 6000) = F at L2
    have hF1 : 1 ≤ F ∧ F ≤ 6000 := by omega
    have hg1 : w.heap.size ≤ w1.heap.size := B1.out.size
    go_wp2_with fail
    go_ret
    exact ⟨rfl, B2.out⟩
  have dh3 : decide (7000 < n) = false := decide_eq_false h3
  go_enter Tryd.func5, Tryd.ntmps5
  have hwp := HWP.out
  go_wp2_with fail
  refine (small_calls w HG.out).mono ?_
  rintro e w1 ⟨rfl, hb⟩
  have B1 := Aside0.mk hb
  clear hb
  go_wp2_with fail
  refine (NewN f w1).mono ?_
  rintro e w2 ⟨rfl, hL, hb⟩
  have B2 := Aside0.mk (below_thenB B1.out hb B1.out.size)
  have L2 := Aside0.mk hL
  clear hL hb
  generalize hF : max 1 (min f 6000) = F at L2
  have hF1 : 1 ≤ F ∧ F ≤ 6000 := by omega
  have hg1 : w.heap.size ≤ w1.heap.size := B1.out.size
  go_wp2_with fail
  have B3 : Aside0 (Below w.heap.size w (w2.alloc (.cells #[.int .u8 1] 5))) := ⟨below_alloc B2.out _⟩
  have L3 := Aside0.mk (L2.out.below (below_alloc (Below.refl _ _) (.cells #[.int .u8 1] 5)))
  clear hwp
  refine (TakeN _ L3.out (by decide) ch p _ 1 _ [1] (C_one w2 1) (by decide)).mono ?_
  rintro e w4 ⟨v4, rfl, hE, hL, hO⟩
  have hz : takeE F 0 (fun _ => Ch.zero) ch p 1 = 0 := by
    have : ¬ argF ch p 1 := by have := HP.out; unfold argF; omega
    simp [takeE, oldF, Ch.fresh, Ch.zero, this]
  have hs : takeS F 0 (fun _ => Ch.zero) ch p [1] = upd (fun _ => Ch.zero) ch.toNat ⟨true, p, 0, [1]⟩ := by
    unfold takeS; rw [show ([1] : List Int).length = 1 from rfl, hz]; rfl
  rw [hz] at hE
  rw [hs] at hL
  have := hE.nil; subst this
  have B4 := bonly B3 hO hg1
  have L4 := Aside0.mk hL
  clear hE hL hO hz hs L2 L3
  obtain ⟨S1, hS1⟩ : ∃ S1, S1 = upd (fun _ => Ch.zero) ch.toNat ⟨true, p, 0, [1]⟩ := ⟨_, rfl⟩
  rw [← hS1] at L4
  have HS := Aside0.mk hS1
  clear hS1
  go_wp2_with fail
  go_loopw [14] (fun i W => ∃ k : Nat, (k : Int) ≤ n ∧ i = .int .i64 k ∧ Aside0 (LN W w1.heap.size F k S1) ∧ Aside0 (Below w.heap.size w W)) (fun i _ => n.toNat - (intOf i).toNat)
  case atStart => exact ⟨0, by omega, rfl, L4, B4⟩
  case round =>
    obtain ⟨k, hk, rfl, L5, B5⟩ := hrel
    by_cases hlt : (k : Int) < n
    · have dk : decide ((k : Int) < n) = true := decide_eq_true hlt
      have hw64 : wrap64 ((k : Int) + 1) = k + 1 := by unfold wrap64; omega
      go_wp2_with fail
      refine (Tick_calls wr L5.out (by omega)).mono ?_
      rintro e w6 ⟨rfl, hL, hO⟩
      have L6 := Aside0.mk hL
      have B6 := bonly B5 hO hg1
      clear hL hO
      go_wp2_with fail
      go_roundw
      case rel => exact ⟨k + 1, by omega, rfl, L6, B6⟩
      case measure => simp [intOf]; omega
    · have hkn : (k : Int) = n := by omega
      have dk : decide ((k : Int) < n) = false := decide_eq_false hlt
      rw [hkn] at L5 dk ⊢
      clear hk hlt
      go_wp2_with fail
      generalize hb : isF F n S1 ch = b
      have hA := Fresh_calls wr L5.out (by omega) ch
      rw [hb] at hA
      have HB := Aside0.mk hb
      refine hA.mono ?_
      clear hA hb
      rintro e w6 ⟨v6, rfl, hR, hb⟩
      obtain ⟨A6, c6, rfl, _, _⟩ := Kd.R_reads hR
      have B6 := Aside0.mk (below_thenB B5.out hb B5.out.size)
      have L6 := Aside0.mk (L5.out.below hb)
      clear hR hb
      have hwq := HWQ.out
      go_wp2_with fail
      clear hwq
      have B7 : Aside0 (Below w.heap.size w (w6.alloc (.cells #[.int .u8 2] 5))) := ⟨below_alloc B6.out _⟩
      have L7 := Aside0.mk (L6.out.below (below_alloc (Below.refl _ _) (.cells #[.int .u8 2] 5)))
      refine (TakeN _ L7.out (by omega) ch q _ 1 _ [2] (C_one w6 2) (by decide)).mono ?_
      rintro e w8 ⟨v8, rfl, hE, hL, hO⟩
      have B8 := bonly B7 hO hg1
      have L8 := Aside0.mk hL
      have E8 := Aside0.mk hE
      clear hE hL hO L6 L7
      have hN := take_after S1 F n ch p q b HS.out (by omega) HP.out HQ.out HB.out
      have nf := fresh_new S1 F n ch q [2] hF1 (by omega) (by omega)
      by_cases hold : b = true ∧ ((q - p) % 256 < 1 ∨ 16 < (q - p) % 256)
      · obtain ⟨rfl, ha⟩ := hold
        rw [if_pos ⟨rfl, ha⟩] at hN
        have E9 : Aside0 (ErrP w8 4 [sLink] v8) := by
          have h := E8.out
          rw [hN] at h
          exact ⟨h.err (by decide)⟩
        have L9 : Aside0 (LN w8 w1.heap.size F n S1) := by
          have h := L8.out
          unfold takeS at h
          rw [show ([2] : List Int).length = 1 from rfl, hN] at h
          exact ⟨h⟩
        clear nf hN E8 L8
        obtain ⟨ty, x, rfl⟩ := E9.out.iface
        have hS1 := HS.out
        have hd : dataF F n S1 ch = [1] := by unfold dataF; rw [HB.out, hS1, upd_same]; rfl
        have hA := Fresh_calls w8 L9.out (by omega) ch
        rw [hd, HB.out] at hA
        have hA' := Aside0.mk hA
        clear hA hd hS1
        have k : (decide (1 ≤ (q - p) % 256) = false) ∨ (decide (1 ≤ (q - p) % 256) = true ∧ decide ((q - p) % 256 ≤ 16) = false) := by
          rcases ha with h | h
          · exact .inl (decide_eq_false (by omega))
          · exact .inr ⟨decide_eq_true (by omega), decide_eq_false (by omega)⟩
        clear ha
        rcases k with k | ⟨k1, k2⟩
        all_goals
          go_wp2_with fail
          refine hA'.out.mono ?_
          rintro e w9 ⟨v9, rfl, hR, hb⟩
          obtain ⟨A9, c9, rfl, _, hC⟩ := Kd.R_reads hR
          have B9 := Aside0.mk (below_thenB B8.out hb B8.out.size)
          have E10 := Aside0.mk (E9.out.below ⟨hb⟩)
          have HC := Aside0.mk hC
          clear hR hb hC
          go_wp2_with fail
          refine (code_err _ _ 4 w9 (HG.out.below B9) E10.out).mono ?_
          rintro e w10 ⟨rfl, hb⟩
          have B10 := Aside0.mk (below_thenB B9.out hb B9.out.size)
          have hs : strOfNums [1] = { data := #[1] } := by rfl
          have hv : (convert 28 9 (.slice A9 1 c9)).run Tryd.prog w10 = .ok (.string { data := #[1] }) w10 := by rw [← hs]; exact Kd.C_string (P := Tryd.prog) (src := 28) (dst := 9) (e := 5) (c := c9) Tryd.underlying28 Tryd.underlying5 Tryd.underlying9 (Kd.C_below HC.out hb)
          clear hb hs
          go_wp2_with fail
          go_ret
          exact ⟨rfl, B10.out⟩
      · rw [if_neg hold] at hN
        have := E8.out
        rw [hN] at this
        have hv8 := this.nil
        subst hv8
        have L9 : Aside0 (LN w8 w1.heap.size F n (upd S1 ch.toNat ⟨true, q, n, [2]⟩)) := by
          have h := L8.out
          unfold takeS at h
          rw [show ([2] : List Int).length = 1 from rfl, hN] at h
          exact ⟨h⟩
        have NF := Aside0.mk nf
        obtain ⟨S2, hS2⟩ : ∃ S2, S2 = upd S1 ch.toNat ⟨true, q, n, [2]⟩ := ⟨_, rfl⟩
        rw [← hS2] at L9 NF
        clear nf hN E8 L8 this hS2
        have hA := Fresh_calls w8 L9.out (by omega) ch
        rw [NF.out.1, NF.out.2.1] at hA
        have hA' := Aside0.mk hA
        clear hA
        have k : b = false ∨ (b = true ∧ decide (1 ≤ (q - p) % 256) = true ∧ decide ((q - p) % 256 ≤ 16) = true) := by
          cases b with
          | false => exact .inl rfl
          | true =>
            have h' : ¬ ((q - p) % 256 < 1 ∨ 16 < (q - p) % 256) := fun x => hold ⟨rfl, x⟩
            exact .inr ⟨rfl, decide_eq_true (by omega), decide_eq_true (by omega)⟩
        clear hold
        rcases k with rfl | ⟨rfl, k1, k2⟩
        all_goals
          go_wp2_with fail
          refine hA'.out.mono ?_
          rintro e w9 ⟨v9, rfl, hR, hb⟩
          obtain ⟨A9, c9, rfl, _, hC⟩ := Kd.R_reads hR
          have B9 := Aside0.mk (below_thenB B8.out hb B8.out.size)
          have L10 := Aside0.mk (L9.out.below hb)
          have hs : strOfNums [2] = { data := #[2] } := by rfl
          have hv : (convert 28 9 (.slice A9 1 c9)).run Tryd.prog w9 = .ok (.string { data := #[2] }) w9 := by rw [← hs]; exact Kd.C_string (P := Tryd.prog) (src := 28) (dst := 9) (e := 5) (c := c9) Tryd.underlying28 Tryd.underlying5 Tryd.underlying9 hC
          clear hb hs hR hC
          go_wp2_with fail
          refine (At_calls w9 L10.out (by omega) ch).mono ?_
          rintro e w10 ⟨v10, rfl, hR, hb⟩
          have B10 := Aside0.mk (below_thenB B9.out hb B9.out.size)
          have hz := NF.out.2.2
          rw [hz]
          have hf := field43_2
          clear hb hv hz hR
          go_wp2_with fail
          go_ret
          exact ⟨rfl, B10.out⟩
theorem order_walk (f ch p q n : Int) (w : World) (_ : (Lit.int .i64 f).wf = true) (_ : (Lit.int .i64 ch).wf = true) (hp : (Lit.int .u8 p).wf = true) (hq : (Lit.int .u8 q).wf = true) (_ : (Lit.int .i64 n).wf = true) (hg : Gerr w) : Calls Tryd.prog 5 #[.int .i64 f, .int .i64 ch, .int .u8 p, .int .u8 q, .int .i64 n] w fun e w' => e = .returned (.bool true) ∧ Below w.heap.size w w' :=
  order_calls f ch p q n w (wf_u8 hp) (wf_u8 hq) hg
end Go.Proofs.YtcikcehphpbfhaaDoor.PE

