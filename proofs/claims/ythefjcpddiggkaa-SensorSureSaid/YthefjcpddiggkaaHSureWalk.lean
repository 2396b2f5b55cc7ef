/- No barrier is told to be down and up, and no route is told that there is not: SensorSure returns true, of any bytes. -/
import Derived.Test.YthefjcpddiggkaaHSure0
import Derived.Test.YthefjcpddiggkaaHSure1
import Derived.Test.YthefjcpddiggkaaHSure2
import Derived.Test.YthefjcpddiggkaaHSure3
namespace Go.Proofs.Ythefjcpddiggkaa.PS
open Go.RowKit Go.Proofs.YthefjcpddiggkaaW.PrintWords Go.Proofs.YthefjcpddiggkaaW.PrintLast Go.Proofs.YthefjcpddiggkaaW.PrintMore
attribute [local go_sem] max2_int min2_int max_two min_two max_three min_three max_four min_four
set_option linter.unusedVariables false
set_option linter.unusedSimpArgs false
attribute [local go_sem high] eqA27 eqA33
set_option maxHeartbeats 8000000 in
set_option maxRecDepth 100000 in
theorem sure_calls (A0 : Option Addr) (c0 : Nat) (l0 : List Int) (a1 : Bool) (a2 : Int) (w : World) (hr0 : Kd.C (Kd.int .u8) w A0 l0.length l0) (hc0 : l0.length ≤ c0) (hb : ∀ x ∈ l0, (Lit.int .u8 x).wf = true) :
    Calls Try.prog 6 #[.slice A0 l0.length c0, .bool a1, .int .i64 a2] w fun e w' => e = .returned (.bool true) ∧ Below w.heap.size w w' := by
  obtain ⟨b1, b2, b3, b4, hq, hb12, hb34⟩ := barrier_sure l0 a1 hb
  obtain ⟨mo, hm, hm0, hm2⟩ := mode_sure l0 a1 hb
  obtain ⟨ro, hro, hr1, hr2, hr3⟩ := routes_sure l0 a1 a2 hb
  obtain ⟨fr, k2, k3, k4, k5, hk, hk0, hk1, hk2, hk3, hk4⟩ := counts_sure l0 a1 hb
  have HR0 := Aside0.mk hr0
  have HC0 := Aside0.mk hc0
  have Q := Aside0.mk hq
  have M := Aside0.mk hm
  have R := Aside0.mk hro
  have K := Aside0.mk hk
  have K0 := Aside0.mk hk0
  have R3 := Aside0.mk hr3
  have B12 := Aside0.mk hb12
  have B34 := Aside0.mk hb34
  clear hr0 hc0 hb hq hm hro hk hk0 hr3 hb12 hb34
  by_cases hbig : 300 < l0.length
  · go_enter Try.func6, Try.ntmps6
    go_wp2_with fail
    refine (small_true _).mono ?_
    rintro e w1 ⟨rfl, hb⟩
    have B1 := Aside0.mk hb
    clear hb
    go_wp2
    go_ret
    exact ⟨rfl, B1.out⟩
  · have eR := R3.out
    have tt : decide (a2 < 1) = true ∨ (decide (a2 < 1) = false ∧ decide (8 < a2) = true) ∨ (decide (a2 < 1) = false ∧ decide (8 < a2) = false ∧ ro / 2 ^ a2.toNat = 0) := by
      by_cases g1 : a2 < 1
      · exact .inl (decide_eq_true g1)
      · by_cases g2 : 8 < a2
        · exact .inr (.inl ⟨decide_eq_false g1, decide_eq_true g2⟩)
        · exact .inr (.inr ⟨decide_eq_false g1, decide_eq_false g2, Int.ediv_eq_zero_of_lt hr1 (eR (by omega) (by omega))⟩)
    have e12 := B12.out
    have e34 := B34.out
    have ek := K0.out
    clear R3 B12 B34 K0
    cases b1
    · cases b3
      · rcases tt with t1 | ⟨t1, t2⟩ | ⟨t1, t2, t3⟩ <;> rcases ek with rfl | ⟨rfl, rfl, rfl, rfl, rfl⟩
        · exact sure_0001 _ _ l0 a1 a2 w b2 b4 mo ro k2 k3 k4 k5 hk1 hk2 hk3 hk4 HR0 HC0 Q M R K hm0 hm2 hr1 hr2 hbig t1
        · exact sure_0000 _ _ l0 a1 a2 w b2 b4 mo ro HR0 HC0 Q M R K hm0 hm2 hr1 hr2 hbig t1
        · exact sure_0011 _ _ l0 a1 a2 w b2 b4 mo ro k2 k3 k4 k5 hk1 hk2 hk3 hk4 HR0 HC0 Q M R K hm0 hm2 hr1 hr2 hbig t1 t2
        · exact sure_0010 _ _ l0 a1 a2 w b2 b4 mo ro HR0 HC0 Q M R K hm0 hm2 hr1 hr2 hbig t1 t2
        · exact sure_0021 _ _ l0 a1 a2 w b2 b4 mo ro k2 k3 k4 k5 hk1 hk2 hk3 hk4 HR0 HC0 Q M R K hm0 hm2 hr1 hr2 hbig t1 t2 t3 (by simp at t1; omega) (by simp at t2; omega)
        · exact sure_0020 _ _ l0 a1 a2 w b2 b4 mo ro HR0 HC0 Q M R K hm0 hm2 hr1 hr2 hbig t1 t2 t3 (by simp at t1; omega) (by simp at t2; omega)
      · obtain rfl : b4 = false := by cases b4 <;> simp_all
        rcases tt with t1 | ⟨t1, t2⟩ | ⟨t1, t2, t3⟩ <;> rcases ek with rfl | ⟨rfl, rfl, rfl, rfl, rfl⟩
        · exact sure_0101 _ _ l0 a1 a2 w b2 false mo ro k2 k3 k4 k5 hk1 hk2 hk3 hk4 HR0 HC0 Q M R K hm0 hm2 hr1 hr2 hbig t1
        · exact sure_0100 _ _ l0 a1 a2 w b2 false mo ro HR0 HC0 Q M R K hm0 hm2 hr1 hr2 hbig t1
        · exact sure_0111 _ _ l0 a1 a2 w b2 false mo ro k2 k3 k4 k5 hk1 hk2 hk3 hk4 HR0 HC0 Q M R K hm0 hm2 hr1 hr2 hbig t1 t2
        · exact sure_0110 _ _ l0 a1 a2 w b2 false mo ro HR0 HC0 Q M R K hm0 hm2 hr1 hr2 hbig t1 t2
        · exact sure_0121 _ _ l0 a1 a2 w b2 false mo ro k2 k3 k4 k5 hk1 hk2 hk3 hk4 HR0 HC0 Q M R K hm0 hm2 hr1 hr2 hbig t1 t2 t3 (by simp at t1; omega) (by simp at t2; omega)
        · exact sure_0120 _ _ l0 a1 a2 w b2 false mo ro HR0 HC0 Q M R K hm0 hm2 hr1 hr2 hbig t1 t2 t3 (by simp at t1; omega) (by simp at t2; omega)
    · obtain rfl : b2 = false := by cases b2 <;> simp_all
      cases b3
      · rcases tt with t1 | ⟨t1, t2⟩ | ⟨t1, t2, t3⟩ <;> rcases ek with rfl | ⟨rfl, rfl, rfl, rfl, rfl⟩
        · exact sure_1001 _ _ l0 a1 a2 w false b4 mo ro k2 k3 k4 k5 hk1 hk2 hk3 hk4 HR0 HC0 Q M R K hm0 hm2 hr1 hr2 hbig t1
        · exact sure_1000 _ _ l0 a1 a2 w false b4 mo ro HR0 HC0 Q M R K hm0 hm2 hr1 hr2 hbig t1
        · exact sure_1011 _ _ l0 a1 a2 w false b4 mo ro k2 k3 k4 k5 hk1 hk2 hk3 hk4 HR0 HC0 Q M R K hm0 hm2 hr1 hr2 hbig t1 t2
        · exact sure_1010 _ _ l0 a1 a2 w false b4 mo ro HR0 HC0 Q M R K hm0 hm2 hr1 hr2 hbig t1 t2
        · exact sure_1021 _ _ l0 a1 a2 w false b4 mo ro k2 k3 k4 k5 hk1 hk2 hk3 hk4 HR0 HC0 Q M R K hm0 hm2 hr1 hr2 hbig t1 t2 t3 (by simp at t1; omega) (by simp at t2; omega)
        · exact sure_1020 _ _ l0 a1 a2 w false b4 mo ro HR0 HC0 Q M R K hm0 hm2 hr1 hr2 hbig t1 t2 t3 (by simp at t1; omega) (by simp at t2; omega)
      · obtain rfl : b4 = false := by cases b4 <;> simp_all
        rcases tt with t1 | ⟨t1, t2⟩ | ⟨t1, t2, t3⟩ <;> rcases ek with rfl | ⟨rfl, rfl, rfl, rfl, rfl⟩
        · exact sure_1101 _ _ l0 a1 a2 w false false mo ro k2 k3 k4 k5 hk1 hk2 hk3 hk4 HR0 HC0 Q M R K hm0 hm2 hr1 hr2 hbig t1
        · exact sure_1100 _ _ l0 a1 a2 w false false mo ro HR0 HC0 Q M R K hm0 hm2 hr1 hr2 hbig t1
        · exact sure_1111 _ _ l0 a1 a2 w false false mo ro k2 k3 k4 k5 hk1 hk2 hk3 hk4 HR0 HC0 Q M R K hm0 hm2 hr1 hr2 hbig t1 t2
        · exact sure_1110 _ _ l0 a1 a2 w false false mo ro HR0 HC0 Q M R K hm0 hm2 hr1 hr2 hbig t1 t2
        · exact sure_1121 _ _ l0 a1 a2 w false false mo ro k2 k3 k4 k5 hk1 hk2 hk3 hk4 HR0 HC0 Q M R K hm0 hm2 hr1 hr2 hbig t1 t2 t3 (by simp at t1; omega) (by simp at t2; omega)
        · exact sure_1120 _ _ l0 a1 a2 w false false mo ro HR0 HC0 Q M R K hm0 hm2 hr1 hr2 hbig t1 t2 t3 (by simp at t1; omega) (by simp at t2; omega)

theorem sure_walk (a0 : Option Addr) (len0 cap0 : Nat) (z0 : List Int) (a1 : Bool) (a2 : Int) (w : World) (w0 : (a0 = none ∧ len0 = 0 ∧ cap0 = 0 ∧ z0 = []) ∨ ∃ x, a0 = some x ∧ len0 ≤ cap0 ∧ cap0 ≤ maxLen ∧ z0.length = cap0 ∧ (∀ i, i < z0.length → w.cell? (x.add i) = some (.int .u8 (z0.getD i 0))) ∧ ∀ n ∈ z0, (Lit.int .u8 n).wf = true) (y0 : len0 * 1 ≤ 140737488351232) (w2 : (Lit.int .i64 a2).wf = true) :
    Calls Try.prog 6 #[.slice a0 len0 cap0, .bool a1, .int .i64 a2] w fun e w' => e = .returned (.bool true) ∧ Below w.heap.size w w' := by
  obtain ⟨l0, rfl, hr0, hm0, hw0, hc0⟩ := ReadsInt.ofRowC w0
  exact sure_calls _ _ l0 a1 a2 w (Kd.C_of_reads (d := (0 : Int)) (h1 := fun _ => rfl) hr0) hc0 hw0
end Go.Proofs.Ythefjcpddiggkaa.PS
