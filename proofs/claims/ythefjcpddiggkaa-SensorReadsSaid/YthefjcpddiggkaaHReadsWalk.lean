/- What channels say: SensorReads returns true, of any bytes (the walk of the law). -/
import Derived.Test.YthefjcpddiggkaaHReads
namespace Go.Proofs.Ythefjcpddiggkaa.PS
open Go.RowKit Go.Proofs.YthefjcpddiggkaaW.PrintWords Go.Proofs.YthefjcpddiggkaaW.PrintLast Go.Proofs.YthefjcpddiggkaaW.PrintMore
attribute [local go_sem] max2_int min2_int max_two min_two max_three min_three max_four min_four
set_option linter.unusedVariables false
set_option linter.unusedSimpArgs false
attribute [local go_sem high] eqA27 eqA33
set_option maxHeartbeats 4000000 in
set_option maxRecDepth 100000 in
theorem reads_calls (A0 : Option Addr) (c0 : Nat) (l0 : List Int) (a1 : Bool) (a2 : Int) (w : World) (hr0 : Kd.C (Kd.int .u8) w A0 l0.length l0) (hc0 : l0.length ≤ c0) (hb : ∀ x ∈ l0, (Lit.int .u8 x).wf = true) :
    Calls Try.prog 3 #[.slice A0 l0.length c0, .bool a1, .int .i64 a2] w fun e w' => e = .returned (.bool true) ∧ Below w.heap.size w w' := by
  obtain ⟨p1, p2, hp, hp'⟩ := power_same l0 a1 hb
  obtain ⟨b1, b2, b3, b4, hq, hq'⟩ := barrier_same l0 a1 hb
  obtain ⟨la, hl, hl'⟩ := lamps_same l0 a1 hb
  obtain ⟨ob, ho, ho'⟩ := obstacle_same l0 a1 hb
  obtain ⟨mo, hm, hm'⟩ := mode_same l0 a1 hb
  obtain ⟨ro, hro, hro'⟩ := routes_same l0 a1 a2 hb
  obtain ⟨k1, k2, k3, k4, k5, hk, hk'⟩ := counts_same l0 a1 hb
  have HR0 := Aside0.mk hr0
  have HC0 := Aside0.mk hc0
  have P := Aside0.mk hp
  have P' := Aside0.mk hp'
  have Q := Aside0.mk hq
  have Q' := Aside0.mk hq'
  have L := Aside0.mk hl
  have L' := Aside0.mk hl'
  have O := Aside0.mk ho
  have O' := Aside0.mk ho'
  have M := Aside0.mk hm
  have M' := Aside0.mk hm'
  have R := Aside0.mk hro
  have R' := Aside0.mk hro'
  have K := Aside0.mk hk
  have K' := Aside0.mk hk'
  clear hr0 hc0 hb hp hp' hq hq' hl hl' ho ho' hm hm' hro hro' hk hk'
  by_cases hbig : 300 < l0.length
  · go_enter Try.func3, Try.ntmps3
    go_wp2_with fail
    refine (small_true _).mono ?_
    rintro e w1 ⟨rfl, hb⟩
    have B1 := Aside0.mk hb
    clear hb
    go_wp2
    go_ret
    exact ⟨rfl, B1.out⟩
  · go_enter Try.func3, Try.ntmps3
    go_wp2_with fail
    refine (small_true _).mono ?_
    rintro e w1 ⟨rfl, hb⟩
    have B1 := Aside0.mk hb
    clear hb
    go_wp2_with fail
    refine (sensor_Power.calls _ _ l0 a1 p1 p2 _ (Kd.C_below HR0.out B1.out) HC0.out P.out).mono ?_
    rintro e w2 ⟨rfl, hb⟩
    have B2 := Aside0.mk (below_step B1.out (by first | exact hb | exact hb.below))
    clear hb
    go_wp2_with fail
    refine (crossbuckref13_Power.calls _ _ l0 a1 p1 p2 _ (Kd.C_below HR0.out B2.out) HC0.out P'.out).mono ?_
    rintro e w3 ⟨rfl, hb⟩
    have B3 := Aside0.mk (below_step B2.out (by first | exact hb | exact hb.below))
    clear hb
    go_wp2_with fail
    refine (sensor_Barrier.calls _ _ l0 a1 b1 b2 b3 b4 _ (Kd.C_below HR0.out B3.out) HC0.out Q.out).mono ?_
    rintro e w4 ⟨rfl, hb⟩
    have B4 := Aside0.mk (below_step B3.out (by first | exact hb | exact hb.below))
    clear hb
    go_wp2_with fail
    refine (crossbuckref13_Barrier.calls 0 _ _ l0 a1 b1 b2 b3 b4 _ (Kd.C_below HR0.out B4.out) HC0.out Q'.out).mono ?_
    rintro e w5 ⟨rfl, hb⟩
    have B5 := Aside0.mk (below_step B4.out (by first | exact hb | exact hb.below))
    clear hb
    go_wp2_with fail
    refine (sensor_Lamps.calls _ _ l0 a1 la _ (Kd.C_below HR0.out B5.out) HC0.out L.out).mono ?_
    rintro e w6 ⟨rfl, hb⟩
    have B6 := Aside0.mk (below_step B5.out (by first | exact hb | exact hb.below))
    clear hb
    go_wp2_with fail
    refine (crossbuckref13_Lamps.calls _ _ l0 a1 la _ (Kd.C_below HR0.out B6.out) HC0.out L'.out).mono ?_
    rintro e w7 ⟨rfl, hb⟩
    have B7 := Aside0.mk (below_step B6.out (by first | exact hb | exact hb.below))
    clear hb
    go_wp2_with fail
    refine (sensor_Obstacle.calls _ _ l0 a1 ob _ (Kd.C_below HR0.out B7.out) HC0.out O.out).mono ?_
    rintro e w8 ⟨rfl, hb⟩
    have B8 := Aside0.mk (below_step B7.out (by first | exact hb | exact hb.below))
    clear hb
    go_wp2_with fail
    refine (crossbuckref13_Obstacle.calls _ _ l0 a1 ob _ (Kd.C_below HR0.out B8.out) HC0.out O'.out).mono ?_
    rintro e w9 ⟨rfl, hb⟩
    have B9 := Aside0.mk (below_step B8.out (by first | exact hb | exact hb.below))
    clear hb
    go_wp2_with fail
    refine (sensor_Mode.calls _ _ l0 a1 mo _ (Kd.C_below HR0.out B9.out) HC0.out M.out).mono ?_
    rintro e w10 ⟨rfl, hb⟩
    have B10 := Aside0.mk (below_step B9.out (by first | exact hb | exact hb.below))
    clear hb
    go_wp2_with fail
    refine (crossbuckref13_Mode.calls _ _ l0 a1 mo _ (Kd.C_below HR0.out B10.out) HC0.out M'.out).mono ?_
    rintro e w11 ⟨rfl, hb⟩
    have B11 := Aside0.mk (below_step B10.out (by first | exact hb | exact hb.below))
    clear hb
    go_wp2_with fail
    refine (sensor_Routes.calls _ _ l0 a1 a2 ro _ (Kd.C_below HR0.out B11.out) HC0.out R.out).mono ?_
    rintro e w12 ⟨rfl, hb⟩
    have B12 := Aside0.mk (below_step B11.out (by first | exact hb | exact hb.below))
    clear hb
    go_wp2_with fail
    refine (crossbuckref13_Routes.calls 10 _ _ l0 a1 a2 ro _ (Kd.C_below HR0.out B12.out) HC0.out R'.out).mono ?_
    rintro e w13 ⟨rfl, hb⟩
    have B13 := Aside0.mk (below_step B12.out (by first | exact hb | exact hb.below))
    clear hb
    go_wp2_with fail
    refine (sensor_Counts.calls _ _ l0 a1 k1 k2 k3 k4 k5 _ (Kd.C_below HR0.out B13.out) HC0.out K.out).mono ?_
    rintro e w14 ⟨rfl, hb⟩
    have B14 := Aside0.mk (below_step B13.out (by first | exact hb | exact hb.below))
    clear hb
    go_wp2_with fail
    refine (crossbuckref13_Counts.calls _ _ l0 a1 k1 k2 k3 k4 k5 _ (Kd.C_below HR0.out B14.out) HC0.out K'.out).mono ?_
    rintro e w15 ⟨rfl, hb⟩
    have B15 := Aside0.mk (below_step B14.out (by first | exact hb | exact hb.below))
    clear hb
    go_wp2
    go_ret
    exact ⟨rfl, B15.out⟩

theorem reads_walk (a0 : Option Addr) (len0 cap0 : Nat) (z0 : List Int) (a1 : Bool) (a2 : Int) (w : World) (w0 : (a0 = none ∧ len0 = 0 ∧ cap0 = 0 ∧ z0 = []) ∨ ∃ x, a0 = some x ∧ len0 ≤ cap0 ∧ cap0 ≤ maxLen ∧ z0.length = cap0 ∧ (∀ i, i < z0.length → w.cell? (x.add i) = some (.int .u8 (z0.getD i 0))) ∧ ∀ n ∈ z0, (Lit.int .u8 n).wf = true) (y0 : len0 * 1 ≤ 140737488351232) (w2 : (Lit.int .i64 a2).wf = true) :
    Calls Try.prog 3 #[.slice a0 len0 cap0, .bool a1, .int .i64 a2] w fun e w' => e = .returned (.bool true) ∧ Below w.heap.size w w' := by
  obtain ⟨l0, rfl, hr0, hm0, hw0, hc0⟩ := ReadsInt.ofRowC w0
  exact reads_calls _ _ l0 a1 a2 w (Kd.C_of_reads (d := (0 : Int)) (h1 := fun _ => rfl) hr0) hc0 hw0
end Go.Proofs.Ythefjcpddiggkaa.PS
