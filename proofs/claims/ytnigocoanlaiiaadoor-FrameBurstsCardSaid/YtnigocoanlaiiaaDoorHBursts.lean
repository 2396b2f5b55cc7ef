/- frame: FrameBursts' walk. -/
import Derived.Test.YtnigocoanlaiiaaDoorHBurst
import Derived.Test.YtnigocoanlaiiaaDoorHBack
namespace Go.Proofs.YtnigocoanlaiiaaDoor.PE
open Go.RowKit Go.Extern.Stop Go.Stop Go.Extern Go.Proofs.YtnigocoanlaiiaaDoorW.PrintWords Go.Proofs.YtnigocoanlaiiaaDoorW.PrintLast Go.Proofs.YtnigocoanlaiiaaDoorW.PrintMore
set_option linter.unusedVariables false
set_option linter.unusedSimpArgs false
set_option maxHeartbeats 16000000 in
set_option maxRecDepth 100000 in
theorem burst_calls (ch sq : Int) (xs : List Int) (A : Option Addr) (c : Nat) (a : Int) (mask : Int) (w : World) (hC : Kd.C (Kd.int .u8) w A xs.length xs) (hcc : xs.length ≤ c) (hB : Bytes xs) (hm : 0 ≤ mask ∧ mask ≤ 65535) (hg : Gerr w) : Calls Tryd.prog 5 #[.agg #[.int .i64 ch, .int .i64 sq, .slice A xs.length c], .int .i64 a, .int .u16 mask] w fun e w' => e = .returned (.bool true) ∧ Below w.heap.size w w' := by
  have B0 : Aside0 (Below w.heap.size w (w.alloc (.cells #[.int .i64 ch, .int .i64 sq, .slice A xs.length c] 24))) := balloc ⟨Below.refl _ _⟩ _
  have HX0 := Aside0.mk (heap_new w (.cells #[.int .i64 ch, .int .i64 sq, .slice A xs.length c] 24))
  have HG := Aside0.mk (hg.below B0)
  have HG0 := Aside0.mk hg
  have HC := Aside0.mk hC
  have HB := Aside0.mk hB
  have HM := Aside0.mk hm
  clear hg hC hB hm
  by_cases h3 : 300 < (xs.length : Int)
  · have d3 : decide (300 < (xs.length : Int)) = true := decide_eq_true h3
    go_enter Tryd.func5, Tryd.ntmps5
    go_wp2_with fail
    refine (small_calls _ HG.out).mono ?_
    rintro e w1 ⟨rfl, hb⟩
    have B1 := Aside0.mk (below_thenB B0.out hb B0.out.size)
    have HX1 := Aside0.mk (heap_below ⟨hb⟩ HX0.out)
    have q0 : World.cell? w1 ⟨w.heap.size, 0, none⟩ = some (.int .i64 ch) := cell_of_heap HX1.out 0
    have q1 : World.cell? w1 ⟨w.heap.size, 1, none⟩ = some (.int .i64 sq) := cell_of_heap HX1.out 1
    have q2 : World.cell? w1 ⟨w.heap.size, 2, none⟩ = some (.slice A xs.length c) := cell_of_heap HX1.out 2
    clear hb
    go_wp2_with fail
    go_ret
    exact ⟨rfl, B1.out⟩
  have d3 : decide (300 < (xs.length : Int)) = false := decide_eq_false h3
  by_cases h4 : mask = 0
  · have d4 : (mask == 0) = true := by simpa using h4
    go_enter Tryd.func5, Tryd.ntmps5
    go_wp2_with fail
    refine (small_calls _ HG.out).mono ?_
    rintro e w1 ⟨rfl, hb⟩
    have B1 := Aside0.mk (below_thenB B0.out hb B0.out.size)
    have HX1 := Aside0.mk (heap_below ⟨hb⟩ HX0.out)
    have q0 : World.cell? w1 ⟨w.heap.size, 0, none⟩ = some (.int .i64 ch) := cell_of_heap HX1.out 0
    have q1 : World.cell? w1 ⟨w.heap.size, 1, none⟩ = some (.int .i64 sq) := cell_of_heap HX1.out 1
    have q2 : World.cell? w1 ⟨w.heap.size, 2, none⟩ = some (.slice A xs.length c) := cell_of_heap HX1.out 2
    clear hb
    go_wp2_with fail
    go_ret
    exact ⟨rfl, B1.out⟩
  have d4 : (mask == 0) = false := by simpa using h4
  go_enter Tryd.func5, Tryd.ntmps5
  go_wp2_with fail
  refine (small_calls _ HG.out).mono ?_
  rintro e w1 ⟨rfl, hb⟩
  have B1 := Aside0.mk (below_thenB B0.out hb B0.out.size)
  have HX1 := Aside0.mk (heap_below ⟨hb⟩ HX0.out)
  have q0 : World.cell? w1 ⟨w.heap.size, 0, none⟩ = some (.int .i64 ch) := cell_of_heap HX1.out 0
  have q1 : World.cell? w1 ⟨w.heap.size, 1, none⟩ = some (.int .i64 sq) := cell_of_heap HX1.out 1
  have q2 : World.cell? w1 ⟨w.heap.size, 2, none⟩ = some (.slice A xs.length c) := cell_of_heap HX1.out 2
  clear hb
  go_wp2_with fail
  clear q0 q1 q2
  refine (Encode_calls ch sq A c xs w1 (Kd.C_below HC.out B1.out) hcc (by omega)).mono ?_
  rintro e w2 ⟨v2, e2, rfl, hE, hR, hb⟩
  have B2 := Aside0.mk (below_thenB B1.out hb B1.out.size)
  clear hb
  by_cases ha : argF ch sq xs.length
  · have h1 : encE ch sq xs.length = 1 := if_pos ha
    rw [h1] at hE
    obtain ⟨ty, y, rfl⟩ := (hE.err (by decide)).iface
    obtain ⟨A2, c2, rfl, -, -⟩ := Kd.R_reads hR
    generalize (encB ch sq xs).length = m2
    clear hE hR h1 ha
    go_wp2_with fail
    go_ret
    exact ⟨rfl, B2.out⟩
  have h1 : encE ch sq xs.length = 0 ∧ encB ch sq xs = encL ch sq xs := ⟨if_neg ha, if_neg ha⟩
  rw [h1.1] at hE
  have := hE.nil; subst this
  rw [h1.2] at hR
  have HBX := Aside0.mk (bytes_enc HB.out ha)
  have hlx := encL_len ch sq xs
  have HOK : Aside0 (openOk (encL ch sq xs) = true) := ⟨(open_seal _).1⟩
  clear ha h1 hE
  generalize encL ch sq xs = X at hR HBX hlx HOK
  obtain ⟨g, c2, rfl, hc2, hgb, hgl, -⟩ := R_at hR (by omega)
  have R2 := Aside0.mk (R_from hR)
  have HC2 := Aside0.mk hc2
  have hl2 : decide ((X.length : Int) < 2) = false := decide_eq_false (by omega)
  have HLX := Aside0.mk hlx
  have HX3 := Aside0.mk (show X.length ≤ 305 by omega)
  have HGB := Aside0.mk (show w.heap.size ≤ g by have := B1.out.size; omega)
  clear hlx hR hgb hgl hc2
  by_cases h5 : a < 0
  · have d5 : decide (a < 0) = true := decide_eq_true h5
    go_wp2_with fail
    go_ret
    exact ⟨rfl, B2.out⟩
  have d5 : decide (a < 0) = false := decide_eq_false h5
  have HW1 := Aside0.mk (show wrap64 (8 * (X.length : Int)) = 8 * X.length by have := HX3.out; unfold wrap64; omega)
  have HW2 := Aside0.mk (show wrap64 (8 * (X.length : Int) - 16) = 8 * X.length - 16 by have := HX3.out; unfold wrap64; omega)
  by_cases h6 : 8 * (X.length : Int) - 16 < a
  · have d6 : decide (8 * (X.length : Int) - 16 < a) = true := decide_eq_true h6
    have hw1 := HW1.out
    have hw2 := HW2.out
    go_wp2_with fail
    go_ret
    exact ⟨rfl, B2.out⟩
  have d6 : decide (8 * (X.length : Int) - 16 < a) = false := decide_eq_false h6
  have hw1 := HW1.out
  have hw2 := HW2.out
  go_wp2_with fail
  clear hw1 hw2
  obtain ⟨n, rfl⟩ := Int.eq_ofNat_of_zero_le (show 0 ≤ a by omega)
  obtain ⟨mk, hmk⟩ := Int.eq_ofNat_of_zero_le HM.out.1
  go_loopw [10] (fun i W => ∃ k : Nat, k ≤ 16 ∧ i = .int .i64 k ∧ Aside0 (Kd.R (Kd.int .u8) 5 W w1.heap.size (fun k => w1.heap.size ≤ k) (.slice (some ⟨g, 0, none⟩) X.length c2) (turn X n mk k)) ∧ Aside0 (Below w.heap.size w W)) (fun i _ => 16 - (intOf i).toNat)
  case atStart => exact ⟨0, by omega, rfl, R2, B2⟩
  case round =>
    obtain ⟨k, hk, rfl, R3, B3⟩ := hrel
    by_cases hlt : (k : Int) < 16
    · have dk : decide ((k : Int) < 16) = true := decide_eq_true hlt
      have hbit : (((mk : Int) / 2 ^ k).tmod 2 == 1) = mk.testBit k := by
        rw [Nat.testBit_eq_decide_div_mod_eq, show ((mk : Int) / 2 ^ k) = ((mk / 2 ^ k : Nat) : Int) by push_cast; rfl]
        generalize mk / 2 ^ k = z
        rw [Int.tmod_eq_emod_of_nonneg (by omega)]
        rcases (show z % 2 = 0 ∨ z % 2 = 1 by omega) with h | h
        · rw [show ((z : Int) % 2) = 0 by omega, h]; rfl
        · rw [show ((z : Int) % 2) = 1 by omega, h]; rfl
      have HK := Aside0.mk (show k + 1 ≤ 16 by omega)
      have HWK := Aside0.mk (show wrap64 ((k : Int) + 1) = (k : Int) + 1 by unfold wrap64; omega)
      have HP3 := Aside0.mk (show n + k < 8 * X.length by omega)
      cases hb : mk.testBit k with
      | false =>
        rw [hb] at hbit
        have HT := Aside0.mk (show turn X n mk (k + 1) = turn X n mk k by rw [turn, if_neg (by rw [hb]; decide)])
        have hw := HWK.out
        clear hb
        go_wp2_with fail
        clear hw
        go_roundw
        case rel => exact ⟨k + 1, HK.out, rfl, ⟨by rw [HT.out]; exact R3.out⟩, B3⟩
        case measure => simp [intOf]; omega
      | true =>
        rw [hb] at hbit
        have HT := Aside0.mk (show turn X n mk (k + 1) = flip (turn X n mk k) (n + k) by rw [turn, if_pos hb])
        obtain ⟨p, hp⟩ : ∃ p, p = n + k := ⟨_, rfl⟩
        rw [← hp] at HT HP3
        have HTL := Aside0.mk (turn_len X n mk k)
        have HTB := Aside0.mk (turn_bytes HBX.out n mk k)
        generalize turn X n mk k = Y at R3 HT HTL HTB
        obtain ⟨q, hq⟩ : ∃ q, q = p / 8 := ⟨_, rfl⟩
        obtain ⟨r, hr⟩ : ∃ r, r = p % 8 := ⟨_, rfl⟩
        have HQ := Aside0.mk (show q < X.length by have := HP3.out; omega)
        obtain ⟨g', c', he, -, -, -, hcell⟩ := R_at R3.out (by rw [HTL.out]; have := HQ.out; omega)
        have hcq := hcell q (by rw [HTL.out]; exact HQ.out)
        have hgg : g = g' := by injection he with e1; injection e1 with e2; injection e2
        rw [← hgg] at hcq
        clear he hcell hgg
        have hfq := (Kd.R_celln 0 R3.out (q : Int) (by omega) (by have := HQ.out; omega)).2
        rw [Int.toNat_natCast] at hfq
        have HPUT := Aside0.mk (Kd.R_putn R3.out (q : Int) (turnB (at_ Y q) r))
        rw [Int.toNat_natCast] at HPUT
        have HFL := Aside0.mk (show flip Y p = Y.set q (turnB (at_ Y q) r) by rw [hq, hr]; rfl)
        have hX := HX3.out
        have b0 : (0 : Int) ≤ (n : Int) + k := by omega
        have b1 : (n : Int) + k ≤ 2447 := by have := HP3.out; omega
        have b2 : (0 : Int) ≤ ((n : Int) + k) / 8 := by omega
        have b3 : ((n : Int) + k) / 8 < (X.length : Int) := by have := HP3.out; omega
        have b4 : (0 : Int) ≤ ((n : Int) + k) % 8 := by omega
        have b5 : ((n : Int) + k) % 8 < 8 := by omega
        have b6 : ((n : Int) + k) / 8 = (q : Int) := by omega
        have b7 : ((n : Int) + k) % 8 = (r : Int) := by omega
        have HB6 := Aside0.mk b6
        have HB7 := Aside0.mk b7
        have b8 : (k : Int) + 1 ≤ 16 := by omega
        have hqn : q = (n + k) / 8 := by omega
        have hrn : r = (n + k) % 8 := by omega
        rw [hqn] at hcq hfq
        rw [hqn, hrn] at HPUT HFL
        clear hb hX hp hq hr b6 b7 hqn hrn
        go_wp2_with fail
        refine ⟨⟨k + 1, HK.out, rfl, ⟨?_⟩, ⟨B3.out.setCell HGB.out _⟩⟩, by have := HK.out; simp [intOf]; omega⟩
        rw [HT.out, HFL.out]
        exact HPUT.out
    · have dk : decide ((k : Int) < 16) = false := decide_eq_false hlt
      have hk16 : k = 16 := by omega
      subst hk16
      have HF := Aside0.mk (burst HBX.out n mk (by omega) (by have := HM.out; omega) (by omega) HOK.out)
      have HTL := Aside0.mk (turn_len X n mk 16)
      have HTB := Aside0.mk (turn_bytes HBX.out n mk 16)
      generalize turn X n mk 16 = Y at R3 HF HTL HTB
      have HDE := Aside0.mk (show decE Y = 3 by unfold decE; rw [if_pos HF.out])
      obtain ⟨A4, c4, he4, hc4, hC4⟩ := Kd.R_reads R3.out
      have hA4 : A4 = some ⟨g, 0, none⟩ ∧ c4 = c2 := by injection he4 with e1 e2 e3; exact ⟨e1.symm, e3.symm⟩
      obtain ⟨rfl, rfl⟩ := hA4
      have hA := Decode_calls (some ⟨g, 0, none⟩) c4 Y wr hC4 hc4 (by rw [HTL.out]; have := HX3.out; omega) HTB.out
      rw [HTL.out] at hA
      have HA := Aside0.mk hA
      clear hA hc4 hC4 he4 hk hlt
      go_wp2_with fail
      refine HA.out.mono ?_
      rintro e w5 ⟨v5, e5, rfl, hE, ⟨A5, c5, rfl, hc5, hC5⟩, hb⟩
      have B5 := Aside0.mk (below_thenB B3.out hb B3.out.size)
      have C5 := Aside0.mk hC5
      have D5 := Aside0.mk hc5
      have rz := dec_zero (l := Y) (by rw [HDE.out]; decide)
      rw [rz.2.2] at C5 D5 ⊢
      rw [rz.1, rz.2.1]
      rw [HDE.out] at hE
      have E5 := Aside0.mk (hE.err (by decide))
      obtain ⟨ty, y, rfl⟩ := E5.out.iface
      clear rz hE hb hC5 hc5 HA
      go_upto_region 13 with fail
      have hbX := below_alloc (Below.refl w5.heap.size w5) (.cells #[.int .i64 0, .int .i64 0, .slice A5 0 c5] 24)
      have HZ := Aside0.mk (heap_new w5 (.cells #[.int .i64 0, .int .i64 0, .slice A5 0 c5] 24))
      obtain ⟨w6, hw6⟩ : ∃ w6, w6 = w5.alloc (.cells #[.int .i64 0, .int .i64 0, .slice A5 0 c5] 24) := ⟨_, rfl⟩
      rw [← hw6] at hbX HZ ⊢
      have B6 := Aside0.mk (below_thenB B5.out hbX B5.out.size)
      have C6 := Aside0.mk (Kd.C_below C5.out hbX)
      have E6 := Aside0.mk (E5.out.below ⟨hbX⟩)
      clear hw6 hbX
      have z0c : World.cell? w6 ⟨w5.heap.size, 0, none⟩ = some (.int .i64 0) := cell_of_heap HZ.out 0
      have z1c : World.cell? w6 ⟨w5.heap.size, 1, none⟩ = some (.int .i64 0) := cell_of_heap HZ.out 1
      have z2c : World.cell? w6 ⟨w5.heap.size, 2, none⟩ = some (.slice A5 0 c5) := cell_of_heap HZ.out 2
      go_wp2_with fail
      refine (code_err _ _ 3 w6 (HG0.out.below B6) E6.out).mono ?_
      rintro e w7 ⟨rfl, hb⟩
      have B7 := Aside0.mk (below_thenB B6.out hb B6.out.size)
      have HZ7 := Aside0.mk (heap_below ⟨hb⟩ HZ.out)
      have C7 := Aside0.mk (Kd.C_below C6.out hb)
      clear hb z0c z1c z2c
      have z0c : World.cell? w7 ⟨w5.heap.size, 0, none⟩ = some (.int .i64 0) := cell_of_heap HZ7.out 0
      have z1c : World.cell? w7 ⟨w5.heap.size, 1, none⟩ = some (.int .i64 0) := cell_of_heap HZ7.out 1
      have z2c : World.cell? w7 ⟨w5.heap.size, 2, none⟩ = some (.slice A5 0 c5) := cell_of_heap HZ7.out 2
      go_wp2_with fail
      refine (Same_calls 0 0 A5 c5 [] 0 0 none 0 [] w7 C7.out D5.out (Kd.C_nil _ _) (Nat.le_refl _) (fun y hy => absurd hy (by simp)) (fun y hy => absurd hy (by simp))).mono ?_
      rintro e w8 ⟨rfl, hb⟩
      have B8 := Aside0.mk (below_thenB B7.out hb B7.out.size)
      rw [decide_eq_true (show ((0 : Int) = 0 ∧ (0 : Int) = 0 ∧ ([] : List Int) = []) from ⟨rfl, rfl, rfl⟩)]
      clear hb z0c z1c z2c
      go_wp2_with fail
      go_ret
      exact ⟨rfl, B8.out⟩
theorem burst_walk (ch sq : Int) (xs : List Int) (A : Option Addr) (c : Nat) (a : Int) (mask : Int) (w : World) (hC : Kd.C (Kd.int .u8) w A xs.length xs) (hcc : xs.length ≤ c) (hB : Bytes xs) (_ : (Lit.int .i64 a).wf = true) (hm : (Lit.int .u16 mask).wf = true) (hg : Gerr w) : Calls Tryd.prog 5 #[.agg #[.int .i64 ch, .int .i64 sq, .slice A xs.length c], .int .i64 a, .int .u16 mask] w fun e w' => e = .returned (.bool true) ∧ Below w.heap.size w w' := by
  have e1 : IntKind.u16.min = 0 := rfl
  have e2 : IntKind.u16.max = 65535 := rfl
  have hm2 : 0 ≤ mask ∧ mask ≤ 65535 := by
    have := (Lit.wf_int_iff .u16 mask).1 hm
    rw [e1, e2] at this; exact this
  exact burst_calls ch sq xs A c a mask w hC hcc hB hm2 hg
end Go.Proofs.YtnigocoanlaiiaaDoor.PE

