/- link: LinkNone's walk. -/
import Derived.Test.YtcikcehphpbfhaaDoorHSmall
import Derived.Test.YtcikcehphpbfhaaDoorPLinkPlaysx1
namespace Go.Proofs.YtcikcehphpbfhaaDoor.PE
open Go.RowKit Go.Extern.Stop Go.Stop Go.Extern Go.Proofs.YtcikcehphpbfhaaDoorW.PrintWords Go.Proofs.YtcikcehphpbfhaaDoorW.PrintLast Go.Proofs.YtcikcehphpbfhaaDoorW.PrintMore
set_option linter.unusedVariables false
set_option linter.unusedSimpArgs false
theorem Same_calls (a b : LinkV) (A B : Option Addr) (ca cb : Nat) (w : World) (hA : Kd.C (Kd.int .u8) w A a.data.length a.data) (hca : a.data.length ≤ ca) (hB : Kd.C (Kd.int .u8) w B b.data.length b.data) (hcb : b.data.length ≤ cb) (he : a = b) :
    Calls Tryd.prog 19 #[.agg #[.bool a.had, .int .i64 a.seq, .int .i64 a.age, .slice A a.data.length ca], .agg #[.bool b.had, .int .i64 b.seq, .int .i64 b.age, .slice B b.data.length cb]] w fun e w' => e = .returned (.bool true) ∧ Below w.heap.size w w' := by
  refine PLinkPlays.crossbuckref07_Same.calls a.had a.seq a.age A ca a.data b.had b.seq b.age B cb b.data true w hA hca hB hcb ?_
  subst he
  simp [PLinkPlays.crossbuckref07_Same.f]
theorem small_N (n : Int) : max 1 (min n 6000) ≤ 6000 := by omega
set_option maxHeartbeats 16000000 in
set_option maxRecDepth 100000 in
theorem none_calls (f ch n : Int) (w : World) (hg : Gerr w) : Calls Tryd.prog 7 #[.int .i64 f, .int .i64 ch, .int .i64 n] w fun e w' => e = .returned (.bool true) ∧ Below w.heap.size w w' := by
  have HG := Aside0.mk hg
  clear hg
  by_cases h0 : n < 0
  · have d0 : decide (n < 0) = true := decide_eq_true h0
    go_enter Tryd.func7, Tryd.ntmps7
    go_wp2_with fail
    refine (small_calls w HG.out).mono ?_
    rintro e w1 ⟨rfl, hb⟩
    have B1 := Aside0.mk hb
    clear hb
    go_wp2_with fail
    refine (NewN f w1).mono ?_
    rintro e w2 ⟨rfl, hL, hb⟩
    have B2 := Aside0.mk (below_thenB B1.out hb B1.out.size)
    clear hL hb
    go_wp2_with fail
    go_ret
    exact ⟨rfl, B2.out⟩
  have d0 : decide (n < 0) = false := decide_eq_false h0
  by_cases h5 : 500 < n
  · have d5 : decide (500 < n) = true := decide_eq_true h5
    go_enter Tryd.func7, Tryd.ntmps7
    go_wp2_with fail
    refine (small_calls w HG.out).mono ?_
    rintro e w1 ⟨rfl, hb⟩
    have B1 := Aside0.mk hb
    clear hb
    go_wp2_with fail
    refine (NewN f w1).mono ?_
    rintro e w2 ⟨rfl, hL, hb⟩
    have B2 := Aside0.mk (below_thenB B1.out hb B1.out.size)
    clear hL hb
    go_wp2_with fail
    go_ret
    exact ⟨rfl, B2.out⟩
  have d5 : decide (500 < n) = false := decide_eq_false h5
  go_enter Tryd.func7, Tryd.ntmps7
  go_wp2_with fail
  refine (small_calls w HG.out).mono ?_
  rintro e w1 ⟨rfl, hb⟩
  have B1 := Aside0.mk hb
  clear hb
  go_wp2_with fail
  refine (NewN f w1).mono ?_
  rintro e w2 ⟨rfl, hL, hb⟩
  have B2 := Aside0.mk (below_thenB B1.out hb B1.out.size)
  have L2 := Aside0.mk hL
  clear hL hb
  generalize hF : max 1 (min f 6000) = F at L2
  have hg1 : w.heap.size ≤ w1.heap.size := B1.out.size
  go_wp2_with fail
  go_loopw [9] (fun i W => ∃ k : Nat, (k : Int) ≤ n ∧ i = .int .i64 k ∧ Aside0 (LN W w1.heap.size F k (fun _ => Ch.zero)) ∧ Aside0 (Below w.heap.size w W)) (fun i _ => n.toNat - (intOf i).toNat)
  case atStart => exact ⟨0, by omega, rfl, L2, B2⟩
  case round =>
    obtain ⟨k, hk, rfl, L3, B3⟩ := hrel
    by_cases hlt : (k : Int) < n
    · have dk : decide ((k : Int) < n) = true := decide_eq_true hlt
      have hw64 : wrap64 ((k : Int) + 1) = k + 1 := by unfold wrap64; omega
      go_wp2_with fail
      refine (Tick_calls wr L3.out (by omega)).mono ?_
      rintro e w4 ⟨rfl, hL, hO⟩
      have L4 := Aside0.mk hL
      have B4 := bonly B3 hO hg1
      clear hL hO
      go_wp2_with fail
      go_roundw
      case rel => exact ⟨k + 1, by omega, rfl, L4, B4⟩
      case measure => simp [intOf]; omega
    · have hkn : (k : Int) = n := by omega
      have dk : decide ((k : Int) < n) = false := decide_eq_false hlt
      rw [hkn] at L3 dk ⊢
      clear hk hlt
      go_wp2_with fail
      have hf : isF F n (fun _ => Ch.zero) ch = false := by simp [isF, Ch.fresh, Ch.zero]
      have hd : dataF F n (fun _ => Ch.zero) ch = [] := by simp [dataF, hf]
      have hA := Fresh_calls wr L3.out (by omega) ch
      rw [hf, hd] at hA
      refine hA.mono ?_
      clear hA hf hd
      rintro e w4 ⟨v4, rfl, hR, hb⟩
      obtain ⟨A4, c4, rfl, _, _⟩ := Kd.R_reads hR
      have B4 := Aside0.mk (below_thenB B3.out hb B3.out.size)
      have L4 := Aside0.mk (L3.out.below hb)
      clear hR hb
      go_wp2_with fail
      have ha : atF F n (fun _ => Ch.zero) ch = ⟨false, 0, 0, []⟩ := by simp [atF, Ch.zero, LinkV.zero]
      have hA := At_calls w4 L4.out (by omega) ch
      rw [ha] at hA
      refine hA.mono ?_
      clear hA ha
      rintro e w5 ⟨v5, rfl, hR, hb⟩
      obtain ⟨A5, c5, rfl, hc5, hC5⟩ := Kd.R_reads hR
      have B5 := Aside0.mk (below_thenB B4.out hb B4.out.size)
      have L5 := Aside0.mk (L4.out.below hb)
      have HC5 := Aside0.mk hC5
      clear hR hb hC5
      go_wp2_with fail
      refine (Same_calls ⟨false, 0, 0, []⟩ ⟨false, 0, 0, []⟩ A5 none c5 0 w5 HC5.out hc5 (Kd.C_nil _ _) (Nat.le_refl _) rfl).mono ?_
      rintro e w6 ⟨rfl, hb⟩
      have B6 := Aside0.mk (below_thenB B5.out hb B5.out.size)
      have L6 := Aside0.mk (L5.out.below hb)
      clear hb HC5
      go_wp2_with fail
      refine (TakeN w6 L6.out (by omega) ch 0 _ 0 0 [] (Kd.C_nil _ _) (by decide)).mono ?_
      rintro e w7 ⟨v7, rfl, hE, hL, hO⟩
      have B7 := bonly B6 hO hg1
      have hz : takeE F n (fun _ => Ch.zero) ch 0 0 = if argF ch 0 0 then 1 else 0 := by simp [takeE, oldF, Ch.fresh, Ch.zero]
      rw [hz] at hE
      clear hz
      by_cases hc : 0 ≤ ch
      · have dc : decide (0 ≤ ch) = true := decide_eq_true hc
        by_cases hc2 : ch ≤ 15
        · have dc2 : decide (ch ≤ 15) = true := decide_eq_true hc2
          rw [if_neg (by unfold argF; omega)] at hE
          have := hE.nil; subst this
          clear hE hL hO hc hc2
          go_wp2_with fail
          go_ret
          exact ⟨rfl, B7.out⟩
        · have dc2 : decide (ch ≤ 15) = false := decide_eq_false hc2
          rw [if_pos (by unfold argF; omega)] at hE
          obtain ⟨ty, x, rfl⟩ := (hE.err (by decide)).iface
          clear hE hL hO hc hc2
          go_wp2_with fail
          go_ret
          exact ⟨rfl, B7.out⟩
      · have dc : decide (0 ≤ ch) = false := decide_eq_false hc
        rw [if_pos (by unfold argF; omega)] at hE
        obtain ⟨ty, x, rfl⟩ := (hE.err (by decide)).iface
        clear hE hL hO hc
        go_wp2_with fail
        go_ret
        exact ⟨rfl, B7.out⟩
theorem none_walk (f ch n : Int) (w : World) (_ : (Lit.int .i64 f).wf = true) (_ : (Lit.int .i64 ch).wf = true) (_ : (Lit.int .i64 n).wf = true) (hg : Gerr w) : Calls Tryd.prog 7 #[.int .i64 f, .int .i64 ch, .int .i64 n] w fun e w' => e = .returned (.bool true) ∧ Below w.heap.size w w' := none_calls f ch n w hg
end Go.Proofs.YtcikcehphpbfhaaDoor.PE
