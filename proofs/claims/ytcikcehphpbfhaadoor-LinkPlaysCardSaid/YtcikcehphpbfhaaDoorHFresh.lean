/- link: LinkFresh's walk. -/
import Derived.Test.YtcikcehphpbfhaaDoorHNone
namespace Go.Proofs.YtcikcehphpbfhaaDoor.PE
open Go.RowKit Go.Extern.Stop Go.Stop Go.Extern Go.Proofs.YtcikcehphpbfhaaDoorW.PrintWords Go.Proofs.YtcikcehphpbfhaaDoorW.PrintLast Go.Proofs.YtcikcehphpbfhaaDoorW.PrintMore
set_option linter.unusedVariables false
set_option linter.unusedSimpArgs false
/-! ### the reference's Encode always answers -/
open PLinkPlays in
theorem one_total : ∀ (d : Nat) (x5 : Int), x5 = 8 - (d : Int) → d ≤ 8 → ∀ (k : Nat), d + 1 ≤ k → ∀ x, ∃ r, crossbuckref02_one.l0 k x x5 = some r
  | 0, x5, h, _, k, hk, x => by
    obtain ⟨j, rfl⟩ : ∃ j, k = j + 1 := ⟨k - 1, by omega⟩
    exact ⟨x, by rw [crossbuckref02_one.l0, if_neg (by omega)]⟩
  | d + 1, x5, h, hd, k, hk, x => by
    obtain ⟨j, rfl⟩ : ∃ j, k = j + 1 := ⟨k - 1, by omega⟩
    have hw : wrap64 (x5 + 1) = x5 + 1 := by unfold wrap64; omega
    rw [crossbuckref02_one.l0, if_pos (by omega), hw]
    split
    · exact one_total d _ (by omega) (by omega) j (by omega) _
    · exact one_total d _ (by omega) (by omega) j (by omega) _
open PLinkPlays in
theorem add_total (xs : List Int) (hx : xs.length ≤ 1000) : ∀ (d : Nat) (x5 : Int), 0 ≤ x5 → x5 + (d : Int) = xs.length → ∀ (k : Nat), d + 11 ≤ k → ∀ x, ∃ r, crossbuckref02_Add.l0 k x xs x5 = some r
  | 0, x5, h0, h, k, hk, x => by
    obtain ⟨j, rfl⟩ : ∃ j, k = j + 1 := ⟨k - 1, by omega⟩
    exact ⟨x, by rw [crossbuckref02_Add.l0, if_neg (by omega)]⟩
  | d + 1, x5, h0, h, k, hk, x => by
    obtain ⟨j, rfl⟩ : ∃ j, k = j + 1 := ⟨k - 1, by omega⟩
    have hw : wrap64 (x5 + 1) = x5 + 1 := by unfold wrap64; omega
    obtain ⟨r, hr⟩ : ∃ r, crossbuckref02_one.f j x (rd xs x5) = some r := one_total 8 0 (by omega) (by omega) j (by omega) _
    rw [crossbuckref02_Add.l0, if_pos (by omega), if_pos h0, hw, hr]
    exact add_total xs hx d _ (by omega) (by omega) j (by omega) _
open PLinkPlays in
theorem enc_total (ch sq : Int) (xs : List Int) (hx : xs.length ≤ 100) : ∃ r, crossbuckref06_Encode.f 200 ch sq xs = some (r, if argF ch sq xs.length then 1 else 0) := by
  unfold crossbuckref06_Encode.f
  by_cases h : argF ch sq xs.length
  · rw [if_pos h]
    unfold argF at h
    by_cases h0 : ch < 0
    · exact ⟨_, if_pos h0⟩
    rw [if_neg h0]
    by_cases h1 : ch > 15
    · exact ⟨_, if_pos h1⟩
    rw [if_neg h1]
    by_cases h2 : sq < 0
    · exact ⟨_, if_pos h2⟩
    rw [if_neg h2]
    by_cases h3 : sq > 255
    · exact ⟨_, if_pos h3⟩
    rw [if_neg h3]
    exact ⟨_, if_pos (by omega)⟩
  · rw [if_neg h]
    unfold argF at h
    rw [if_neg (by omega), if_neg (by omega), if_neg (by omega), if_neg (by omega), if_neg (by omega)]
    show ∃ r, (if ([(ch) % 256, (sq) % 256, ((xs.length : Int)) % 256] : List Int).length + xs.length < 140737488355328 then ((crossbuckref02_Seal.f 200 ([(ch) % 256, (sq) % 256, ((xs.length : Int)) % 256] ++ xs)).bind fun t125 => (some (t125, (0 : Int)))) else none) = some (r, 0)
    rw [if_pos (by simp; omega)]
    generalize hL : ([(ch) % 256, (sq) % 256, ((xs.length : Int)) % 256] ++ xs : List Int) = L
    have hl : L.length = xs.length + 3 := by rw [← hL]; simp
    obtain ⟨r, hr⟩ : ∃ r, crossbuckref02_Add.f 200 65535 L = some r := add_total L (by omega) L.length 0 (by omega) (by omega) 200 (by omega) _
    unfold crossbuckref02_Seal.f crossbuckref02_Sum.f
    rw [hr]
    simp only [Option.bind_some, List.length_nil, List.nil_append]
    rw [if_pos (by omega), if_pos (by simp; omega)]
    exact ⟨_, rfl⟩
open PLinkPlays in
theorem Encode_calls (ch sq : Int) (A : Option Addr) (c : Nat) (xs : List Int) (w : World) (hC : Kd.C (Kd.int .u8) w A xs.length xs) (hc : xs.length ≤ c) (hx : xs.length ≤ 100) :
    Calls Tryd.prog 22 #[.agg #[.int .i64 ch, .int .i64 sq, .slice A xs.length c]] w fun e w' => ∃ (v : Value) (ys : List Int), e = .returned (.tuple #[v, .int .i64 (if argF ch sq xs.length then 1 else 0)]) ∧ Kd.R (Kd.int .u8) 5 w' w.heap.size (fun _ => True) v ys ∧ Below w.heap.size w w' := by
  obtain ⟨r, hr⟩ := enc_total ch sq xs hx
  exact (crossbuckref06_Encode.calls 200 ch sq A c xs r _ w hC hc hr).mono (fun _ _ ⟨v, h1, h2, h3⟩ => ⟨v, r, h1, h2, h3⟩)
theorem fresh_at (F n ch sq : Int) (xs : List Int) (S1 : Nat → Ch) (hS : S1 = upd (fun _ => Ch.zero) ch.toNat ⟨true, sq, 0, xs⟩) (hF : 1 ≤ F ∧ F ≤ 6000) (hc : 0 ≤ ch ∧ ch ≤ 15) (hn : 0 ≤ n) :
    isF F n S1 ch = decide (n ≤ F) ∧ dataF F n S1 ch = (if n ≤ F then xs else []) ∧ (atF F n S1 ch).age = min n (F + 1) := by
  have hs : S1 ch.toNat = ⟨true, sq, 0, xs⟩ := by rw [hS, upd_same]
  have h1 : isF F n S1 ch = decide (n ≤ F) := by
    unfold isF Ch.fresh
    rw [hs, decide_eq_true hc]
    show (true && (true && decide (min (n - 0) (F + 1) ≤ F))) = _
    by_cases h : n ≤ F
    · rw [decide_eq_true h, decide_eq_true (by omega)]; rfl
    · rw [decide_eq_false h, decide_eq_false (by omega)]; rfl
  refine ⟨h1, ?_, ?_⟩
  · unfold dataF; rw [h1, hs]
    by_cases h : n ≤ F
    · rw [decide_eq_true h, if_pos h]; rfl
    · rw [decide_eq_false h, if_neg h]; rfl
  · unfold atF; rw [hs, if_pos ⟨hc, rfl⟩]
    show min (n - 0) (F + 1) = _
    rw [Int.sub_zero]
set_option maxHeartbeats 16000000 in
set_option maxRecDepth 100000 in
theorem linkfresh_calls (f ch sq n : Int) (A : Option Addr) (c : Nat) (xs : List Int) (w : World) (hC : Kd.C (Kd.int .u8) w A xs.length xs) (hcc : xs.length ≤ c) (hg : Gerr w) : Calls Tryd.prog 4 #[.int .i64 f, .agg #[.int .i64 ch, .int .i64 sq, .slice A xs.length c], .int .i64 n] w fun e w' => e = .returned (.bool true) ∧ Below w.heap.size w w' := by
  have B0 : Aside0 (Below w.heap.size w (w.alloc (.cells #[.int .i64 ch, .int .i64 sq, .slice A xs.length c] 30))) := balloc ⟨Below.refl _ _⟩ _
  have HX0 := Aside0.mk (heap_new w (.cells #[.int .i64 ch, .int .i64 sq, .slice A xs.length c] 30))
  have HG := Aside0.mk (hg.below B0)
  have HG0 := Aside0.mk hg
  have HC := Aside0.mk hC
  clear hg hC
  by_cases h2 : n < 0
  · have dh2 : decide (n < 0) = true := decide_eq_true h2
    go_enter Tryd.func4, Tryd.ntmps4
    go_wp2_with fail
    obtain ⟨W0, hW⟩ : ∃ W0, W0 = (w.alloc (.cells #[.int .i64 ch, .int .i64 sq, .slice A xs.length c] 30)) := ⟨_, rfl⟩
    rw [← hW] at B0 HX0 HG ⊢
    clear hW
    refine (small_calls _ HG.out).mono ?_
    rintro e w1 ⟨rfl, hb⟩
    have B1 : Aside0 (Below w.heap.size w w1) := Aside0.mk (below_thenB B0.out hb B0.out.size)
    have HX1 := Aside0.mk (heap_below ⟨hb⟩ HX0.out)
    clear hb
    go_wp2_with fail
    refine (NewN f w1).mono ?_
    rintro e w2 ⟨rfl, hL, hb⟩
    have B2 := Aside0.mk (below_thenB B1.out hb B1.out.size)
    have L2 := Aside0.mk hL
    have HX2 := heap_below ⟨hb⟩ HX1.out
    have q0 : World.cell? w2 ⟨w.heap.size, 0, none⟩ = some (.int .i64 ch) := cell_of_heap HX2 0
    have q1 : World.cell? w2 ⟨w.heap.size, 1, none⟩ = some (.int .i64 sq) := cell_of_heap HX2 1
    have q2 : World.cell? w2 ⟨w.heap.size, 2, none⟩ = some (.slice A xs.length c) := cell_of_heap HX2 2
    have HXX := Aside0.mk HX2
    have hxw := heap_lt HX1.out
    clear HX2
    clear hL hb
    generalize hF : max 1 (min f 6000) = F at L2
    have hF1 : 1 ≤ F ∧ F ≤ 6000 := by omega
    have hg1 : w.heap.size ≤ w1.heap.size := B1.out.size
    go_wp2_with fail
    go_ret
    exact ⟨rfl, B2.out⟩
  have dh2 : decide (n < 0) = false := decide_eq_false h2
  by_cases h3 : 7000 < n
  · have dh3 : decide (7000 < n) = true := decide_eq_true h3
    go_enter Tryd.func4, Tryd.ntmps4
    go_wp2_with fail
    obtain ⟨W0, hW⟩ : ∃ W0, W0 = (w.alloc (.cells #[.int .i64 ch, .int .i64 sq, .slice A xs.length c] 30)) := ⟨_, rfl⟩
    rw [← hW] at B0 HX0 HG ⊢
    clear hW
    refine (small_calls _ HG.out).mono ?_
    rintro e w1 ⟨rfl, hb⟩
    have B1 : Aside0 (Below w.heap.size w w1) := Aside0.mk (below_thenB B0.out hb B0.out.size)
    have HX1 := Aside0.mk (heap_below ⟨hb⟩ HX0.out)
    clear hb
    go_wp2_with fail
    refine (NewN f w1).mono ?_
    rintro e w2 ⟨rfl, hL, hb⟩
    have B2 := Aside0.mk (below_thenB B1.out hb B1.out.size)
    have L2 := Aside0.mk hL
    have HX2 := heap_below ⟨hb⟩ HX1.out
    have q0 : World.cell? w2 ⟨w.heap.size, 0, none⟩ = some (.int .i64 ch) := cell_of_heap HX2 0
    have q1 : World.cell? w2 ⟨w.heap.size, 1, none⟩ = some (.int .i64 sq) := cell_of_heap HX2 1
    have q2 : World.cell? w2 ⟨w.heap.size, 2, none⟩ = some (.slice A xs.length c) := cell_of_heap HX2 2
    have HXX := Aside0.mk HX2
    have hxw := heap_lt HX1.out
    clear HX2
    clear hL hb
    generalize hF : max 1 (min f 6000) = F at L2
    have hF1 : 1 ≤ F ∧ F ≤ 6000 := by omega
    have hg1 : w.heap.size ≤ w1.heap.size := B1.out.size
    go_wp2_with fail
    go_ret
    exact ⟨rfl, B2.out⟩
  have dh3 : decide (7000 < n) = false := decide_eq_false h3
  by_cases h4 : 100 < (xs.length : Int)
  · have dh4 : decide (100 < (xs.length : Int)) = true := decide_eq_true h4
    go_enter Tryd.func4, Tryd.ntmps4
    go_wp2_with fail
    obtain ⟨W0, hW⟩ : ∃ W0, W0 = (w.alloc (.cells #[.int .i64 ch, .int .i64 sq, .slice A xs.length c] 30)) := ⟨_, rfl⟩
    rw [← hW] at B0 HX0 HG ⊢
    clear hW
    refine (small_calls _ HG.out).mono ?_
    rintro e w1 ⟨rfl, hb⟩
    have B1 : Aside0 (Below w.heap.size w w1) := Aside0.mk (below_thenB B0.out hb B0.out.size)
    have HX1 := Aside0.mk (heap_below ⟨hb⟩ HX0.out)
    clear hb
    go_wp2_with fail
    refine (NewN f w1).mono ?_
    rintro e w2 ⟨rfl, hL, hb⟩
    have B2 := Aside0.mk (below_thenB B1.out hb B1.out.size)
    have L2 := Aside0.mk hL
    have HX2 := heap_below ⟨hb⟩ HX1.out
    have q0 : World.cell? w2 ⟨w.heap.size, 0, none⟩ = some (.int .i64 ch) := cell_of_heap HX2 0
    have q1 : World.cell? w2 ⟨w.heap.size, 1, none⟩ = some (.int .i64 sq) := cell_of_heap HX2 1
    have q2 : World.cell? w2 ⟨w.heap.size, 2, none⟩ = some (.slice A xs.length c) := cell_of_heap HX2 2
    have HXX := Aside0.mk HX2
    have hxw := heap_lt HX1.out
    clear HX2
    clear hL hb
    generalize hF : max 1 (min f 6000) = F at L2
    have hF1 : 1 ≤ F ∧ F ≤ 6000 := by omega
    have hg1 : w.heap.size ≤ w1.heap.size := B1.out.size
    go_wp2_with fail
    go_ret
    exact ⟨rfl, B2.out⟩
  have dh4 : decide (100 < (xs.length : Int)) = false := decide_eq_false h4
  go_enter Tryd.func4, Tryd.ntmps4
  go_wp2_with fail
  obtain ⟨W0, hW⟩ : ∃ W0, W0 = (w.alloc (.cells #[.int .i64 ch, .int .i64 sq, .slice A xs.length c] 30)) := ⟨_, rfl⟩
  rw [← hW] at B0 HX0 HG ⊢
  clear hW
  refine (small_calls _ HG.out).mono ?_
  rintro e w1 ⟨rfl, hb⟩
  have B1 : Aside0 (Below w.heap.size w w1) := Aside0.mk (below_thenB B0.out hb B0.out.size)
  have HX1 := Aside0.mk (heap_below ⟨hb⟩ HX0.out)
  clear hb
  go_wp2_with fail
  refine (NewN f w1).mono ?_
  rintro e w2 ⟨rfl, hL, hb⟩
  have B2 := Aside0.mk (below_thenB B1.out hb B1.out.size)
  have L2 := Aside0.mk hL
  have HX2 := heap_below ⟨hb⟩ HX1.out
  have q0 : World.cell? w2 ⟨w.heap.size, 0, none⟩ = some (.int .i64 ch) := cell_of_heap HX2 0
  have q1 : World.cell? w2 ⟨w.heap.size, 1, none⟩ = some (.int .i64 sq) := cell_of_heap HX2 1
  have q2 : World.cell? w2 ⟨w.heap.size, 2, none⟩ = some (.slice A xs.length c) := cell_of_heap HX2 2
  have HXX := Aside0.mk HX2
  have hxw := heap_lt HX1.out
  clear HX2
  clear hL hb
  generalize hF : max 1 (min f 6000) = F at L2
  have hF1 : 1 ≤ F ∧ F ≤ 6000 := by omega
  have hg1 : w.heap.size ≤ w1.heap.size := B1.out.size
  go_wp2_with fail
  have hxg : w.heap.size ≠ w1.heap.size := by have := hxw; omega
  have hgb : w.heap.size ≤ w1.heap.size := by omega
  refine (TakeN w2 L2.out (by decide) ch sq A xs.length c xs (Kd.C_below HC.out B2.out) (by omega)).mono ?_
  rintro e w3 ⟨v3, rfl, hE, hL, hO⟩
  have B3 := bonly B2 hO hgb
  have L3 := Aside0.mk hL
  have E3 := Aside0.mk hE
  have HX3 := heap_only hO hxg HXX.out
  have q0 : World.cell? w3 ⟨w.heap.size, 0, none⟩ = some (.int .i64 ch) := cell_of_heap HX3 0
  have q1 : World.cell? w3 ⟨w.heap.size, 1, none⟩ = some (.int .i64 sq) := cell_of_heap HX3 1
  have q2 : World.cell? w3 ⟨w.heap.size, 2, none⟩ = some (.slice A xs.length c) := cell_of_heap HX3 2
  have HXY := Aside0.mk HX3
  clear hE hL hO HX3 HXX L2
  go_wp2_with fail
  refine (Encode_calls ch sq A c xs w3 (Kd.C_below HC.out B3.out) hcc (by omega)).mono ?_
  rintro e w4 ⟨v4, ys, rfl, hR, hb⟩
  obtain ⟨A4, c4, rfl, -, -⟩ := Kd.R_reads hR
  have B4 := Aside0.mk (below_thenB B3.out hb B3.out.size)
  have L4 := Aside0.mk (L3.out.below hb)
  have E4 := Aside0.mk (E3.out.below ⟨hb⟩)
  have HX4 := heap_below ⟨hb⟩ HXY.out
  have q0 : World.cell? w4 ⟨w.heap.size, 0, none⟩ = some (.int .i64 ch) := cell_of_heap HX4 0
  have HXZ := Aside0.mk HX4
  clear hR hb HX4 HXY L3 E3
  by_cases ha : argF ch sq xs.length
  · have hz : takeE F 0 (fun _ => Ch.zero) ch sq xs.length = 1 := by simp [takeE, ha]
    have L5 : Aside0 (LN w4 w1.heap.size F 0 (fun _ => Ch.zero)) := by
      have h := L4.out
      unfold takeS at h
      rw [hz, if_neg (by decide)] at h
      exact ⟨h⟩
    have E5 : Aside0 (ErrP w4 1 [sLink] v3) := by
      have h := E4.out
      rw [hz] at h
      exact ⟨h.err (by decide)⟩
    rw [if_pos ha]
    clear ha hz E4 L4
    obtain ⟨ty, x, rfl⟩ := E5.out.iface
    go_wp2_with fail
    have hf : isF F 0 (fun _ => Ch.zero) ch = false := by simp [isF, Ch.fresh, Ch.zero]
    have hA := Fresh_calls w4 L5.out (by decide) ch
    rw [hf] at hA
    refine hA.mono ?_
    clear hA hf
    rintro e w5 ⟨v5, rfl, hR, hb⟩
    obtain ⟨A5, c5, rfl, -, -⟩ := Kd.R_reads hR
    have B5 := Aside0.mk (below_thenB B4.out hb B4.out.size)
    have E6 := Aside0.mk (E5.out.below ⟨hb⟩)
    clear hR hb
    go_wp2_with fail
    refine (code_err _ _ 1 w5 (HG0.out.below B5) E6.out).mono ?_
    rintro e w6 ⟨rfl, hb⟩
    have B6 := Aside0.mk (below_thenB B5.out hb B5.out.size)
    clear hb
    go_wp2_with fail
    go_ret
    exact ⟨rfl, B6.out⟩
  · have hz : takeE F 0 (fun _ => Ch.zero) ch sq xs.length = 0 := by simp [takeE, ha, oldF, Ch.fresh, Ch.zero]
    have L5 : Aside0 (LN w4 w1.heap.size F 0 (upd (fun _ => Ch.zero) ch.toNat ⟨true, sq, 0, xs⟩)) := by
      have h := L4.out
      unfold takeS at h
      rw [hz, if_pos rfl] at h
      exact ⟨h⟩
    have hv : v3 = .nilIface := by
      have h := E4.out
      rw [hz] at h
      exact h.nil
    subst hv
    have hc : 0 ≤ ch ∧ ch ≤ 15 := by unfold argF at ha; omega
    rw [if_neg ha]
    clear ha hz E4 L4
    obtain ⟨S1, hS1⟩ : ∃ S1, S1 = upd (fun _ => Ch.zero) ch.toNat ⟨true, sq, 0, xs⟩ := ⟨_, rfl⟩
    rw [← hS1] at L5
    have HS := Aside0.mk hS1
    clear hS1
    have hlast : min (max f 1) 6000 = F := by omega
    have hwF : wrap64 (F + 1) = F + 1 := by unfold wrap64; omega
    have HLA := Aside0.mk hlast
    have HWF := Aside0.mk hwF
    clear hlast hwF q0
    go_wp2_with fail
    go_loopw [14] (fun i W => ∃ k : Nat, (k : Int) ≤ n ∧ i = .int .i64 k ∧ Aside0 (LN W w1.heap.size F k S1) ∧ Aside0 (Below w.heap.size w W) ∧ Aside0 (W.heap[w.heap.size]? = some (.cells #[.int .i64 ch, .int .i64 sq, .slice A xs.length c] 30 (0, 0)))) (fun i _ => n.toNat - (intOf i).toNat)
    case atStart => exact ⟨0, by omega, rfl, L5, B4, HXZ⟩
    case round =>
      obtain ⟨k, hk, rfl, L6, B6, HX6⟩ := hrel
      by_cases hlt : (k : Int) < n
      · have dk : decide ((k : Int) < n) = true := decide_eq_true hlt
        have hk7 : (k : Int) ≤ 1000000 := by omega
        have HM := Aside0.mk (show n.toNat - (k + 1) < n.toNat - k by omega)
        have HR := Aside0.mk (show ((k + 1 : Nat) : Int) ≤ n by omega)
        have HW64 := Aside0.mk (show wrap64 ((k : Int) + 1) = k + 1 by unfold wrap64; omega)
        go_wp2_with fail
        refine (Tick_calls wr L6.out hk7).mono ?_
        rintro e w7 ⟨rfl, hL, hO⟩
        have L7 := Aside0.mk hL
        have B7 := bonly B6 hO hgb
        have HX7 := Aside0.mk (heap_only hO hxg HX6.out)
        have hw64 := HW64.out
        clear hL hO
        go_wp2_with fail
        go_roundw
        case rel => exact ⟨k + 1, HR.out, rfl, L7, B7, HX7⟩
        case measure => simpa [intOf] using HM.out
      · have hkn : (k : Int) = n := by omega
        have dk : decide ((k : Int) < n) = false := decide_eq_false hlt
        rw [hkn] at L6 dk ⊢
        clear hk hlt
        have q0 : World.cell? wr ⟨w.heap.size, 0, none⟩ = some (.int .i64 ch) := cell_of_heap HX6.out 0
        have NF := Aside0.mk (fresh_at F n ch sq xs S1 HS.out hF1 hc (by omega))
        have hn7 : n ≤ 1000000 := by omega
        have hlast := HLA.out
        have hwF := HWF.out
        have hA := Fresh_calls wr L6.out hn7 ch
        rw [NF.out.1, NF.out.2.1] at hA
        have hA' := Aside0.mk hA
        clear hA
        go_wp2_with fail
        by_cases hnF : n ≤ F
        · have dF : decide (n ≤ F) = true := decide_eq_true hnF
          have hA := hA'.out
          rw [dF, if_pos hnF] at hA
          refine hA.mono ?_
          clear hA hnF hA'
          rintro e w7 ⟨v7, rfl, hR, hb⟩
          obtain ⟨A7, c7, rfl, -, hC7⟩ := Kd.R_reads hR
          have B7 := Aside0.mk (below_thenB B6.out hb B6.out.size)
          have L7 := Aside0.mk (L6.out.below hb)
          have HX7 := heap_below ⟨hb⟩ HX6.out
          have p0 : World.cell? w7 ⟨w.heap.size, 0, none⟩ = some (.int .i64 ch) := cell_of_heap HX7 0
          have p2 : World.cell? w7 ⟨w.heap.size, 2, none⟩ = some (.slice A xs.length c) := cell_of_heap HX7 2
          have hv : (convert 28 9 (.slice A7 xs.length c7)).run Tryd.prog w7 = .ok (.string (strOfNums xs)) w7 := Kd.C_string (P := Tryd.prog) (src := 28) (dst := 9) (e := 5) (c := c7) Tryd.underlying28 Tryd.underlying5 Tryd.underlying9 hC7
          have hv2 : (convert 28 9 (.slice A xs.length c)).run Tryd.prog w7 = .ok (.string (strOfNums xs)) w7 := Kd.C_string (P := Tryd.prog) (src := 28) (dst := 9) (e := 5) (c := c) Tryd.underlying28 Tryd.underlying5 Tryd.underlying9 (Kd.C_below HC.out B7.out)
          clear hb hR hC7 HX7 q0
          go_wp2_with fail
          refine (At_calls w7 L7.out hn7 ch).mono ?_
          rintro e w8 ⟨v8, rfl, hR, hb⟩
          have B8 := Aside0.mk (below_thenB B7.out hb B7.out.size)
          have hz := NF.out.2.2
          rw [hz]
          have hf := field43_2
          clear hb hv hv2 hz hR p0 p2
          go_wp2_with fail
          go_ret
          exact ⟨rfl, B8.out⟩
        · have dF : decide (n ≤ F) = false := decide_eq_false hnF
          have hA := hA'.out
          rw [dF, if_neg hnF] at hA
          refine hA.mono ?_
          clear hA hnF hA'
          rintro e w7 ⟨v7, rfl, hR, hb⟩
          obtain ⟨A7, c7, rfl, -, hC7⟩ := Kd.R_reads hR
          have B7 := Aside0.mk (below_thenB B6.out hb B6.out.size)
          have L7 := Aside0.mk (L6.out.below hb)
          have HX7 := heap_below ⟨hb⟩ HX6.out
          have p0 : World.cell? w7 ⟨w.heap.size, 0, none⟩ = some (.int .i64 ch) := cell_of_heap HX7 0
          clear hb hR hC7 HX7 q0
          go_wp2_with fail
          refine (At_calls w7 L7.out hn7 ch).mono ?_
          rintro e w8 ⟨v8, rfl, hR, hb⟩
          have B8 := Aside0.mk (below_thenB B7.out hb B7.out.size)
          have hz := NF.out.2.2
          rw [hz]
          have hf := field43_2
          clear hb hz hR p0
          go_wp2_with fail
          go_ret
          exact ⟨rfl, B8.out⟩
theorem linkfresh_walk (f ch sq : Int) (xs : List Int) (A : Option Addr) (c : Nat) (n : Int) (w : World) (_ : (Lit.int .i64 f).wf = true) (hC : Kd.C (Kd.int .u8) w A xs.length xs) (hl : xs.length ≤ c) (_ : (Lit.int .i64 n).wf = true) (hg : Gerr w) : Calls Tryd.prog 4 #[.int .i64 f, .agg #[.int .i64 ch, .int .i64 sq, .slice A xs.length c], .int .i64 n] w fun e w' => e = .returned (.bool true) ∧ Below w.heap.size w w' :=
  linkfresh_calls f ch sq n A c xs w hC hl hg
end Go.Proofs.YtcikcehphpbfhaaDoor.PE

