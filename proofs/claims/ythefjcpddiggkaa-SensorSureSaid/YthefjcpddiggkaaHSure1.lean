/- SensorSure returns true, of any bytes: the walk, where barriers, tracks and counts are as the names of the theorems say. -/
import Derived.Test.YthefjcpddiggkaaHSurePure
namespace Go.Proofs.Ythefjcpddiggkaa.PS
open Go.RowKit Go.Proofs.YthefjcpddiggkaaW.PrintWords Go.Proofs.YthefjcpddiggkaaW.PrintLast Go.Proofs.YthefjcpddiggkaaW.PrintMore
attribute [local go_sem] max2_int min2_int max_two min_two max_three min_three max_four min_four
set_option linter.unusedVariables false
set_option linter.unusedSimpArgs false
attribute [local go_sem high] eqA27 eqA33
set_option maxHeartbeats 8000000 in
set_option maxRecDepth 100000 in
theorem sure_0100 (A0 : Option Addr) (c0 : Nat) (l0 : List Int) (a1 : Bool) (a2 : Int) (w : World) (b2 b4 : Bool) (mo ro : Int)
    (HR0 : Aside0 (Kd.C (Kd.int .u8) w A0 l0.length l0)) (HC0 : Aside0 (l0.length ≤ c0)) (Q : Aside0 (sensor_Barrier.f l0 a1 = some (false, b2, true, false))) (M : Aside0 (sensor_Mode.f l0 a1 = some mo)) (R : Aside0 (sensor_Routes.f l0 a1 a2 = some ro)) (K : Aside0 (sensor_Counts.f l0 a1 = some (false, 0, 0, 0, 0)))
    (hm0 : 0 ≤ mo) (hm2 : mo ≤ 2) (hr1 : 0 ≤ ro) (hr2 : ro < 256) (hbig : ¬ 300 < l0.length) (t1 : decide (a2 < 1) = true) :
    Calls Try.prog 6 #[.slice A0 l0.length c0, .bool a1, .int .i64 a2] w fun e w' => e = .returned (.bool true) ∧ Below w.heap.size w w' := by
  go_enter Try.func6, Try.ntmps6
  go_wp2_with fail
  refine (small_true _).mono ?_
  rintro e w1 ⟨rfl, hb⟩
  have B1 := Aside0.mk hb
  clear hb
  go_wp2_with fail
  refine (sensor_Barrier.calls _ _ l0 a1 false b2 true false _ (Kd.C_below HR0.out B1.out) HC0.out Q.out).mono ?_
  rintro e w2 ⟨rfl, hb⟩
  have B2 := Aside0.mk (below_step B1.out hb)
  clear hb
  go_wp2_with fail
  refine (sensor_Routes.calls _ _ l0 a1 a2 ro _ (Kd.C_alloc (Kd.C_below HR0.out B2.out) _) HC0.out R.out).mono ?_
  rintro e w3 ⟨rfl, hb⟩
  have D3 := Aside0.mk hb
  have B3 := btrans (balloc B2 _) D3
  clear hb
  go_wp2_with fail
  refine (sensor_Mode.calls _ _ l0 a1 mo _ (Kd.C_below HR0.out B3.out) HC0.out M.out).mono ?_
  rintro e w4 ⟨rfl, hb⟩
  have D4 := btrans D3 (Aside0.mk hb.below)
  have B4 := Aside0.mk (below_step B3.out hb.below)
  clear hb
  go_wp2_with fail
  refine (sensor_Counts.calls _ _ l0 a1 false 0 0 0 0 _ (Kd.C_below HR0.out B4.out) HC0.out K.out).mono ?_
  rintro e w5 ⟨rfl, hb⟩
  have D5 := btrans D4 (Aside0.mk hb)
  have B5 := Aside0.mk (below_step B4.out hb)
  clear hb
  have c0 : w5.cell? ⟨w2.heap.size, 0, none⟩ = some (.bool false) := bcellA D5 (cell_new _ _ _ 0)
  have c1 : w5.cell? ⟨w2.heap.size, 1, none⟩ = some (.bool b2) := bcellA D5 (cell_new _ _ _ 1)
  have c2 : w5.cell? ⟨w2.heap.size, 2, none⟩ = some (.bool true) := bcellA D5 (cell_new _ _ _ 2)
  have c3 : w5.cell? ⟨w2.heap.size, 3, none⟩ = some (.bool false) := bcellA D5 (cell_new _ _ _ 3)
  have hlt : w2.heap.size < w5.heap.size := by have := D5.out.size; simp at this; omega
  clear B1 B2 B3 B4 D3 D4 D5 Q M R K HR0 HC0
  go_wp2
  go_ret
  exact ⟨rfl, by repeat (first | exact B5.out | apply below_alloc)⟩
set_option maxHeartbeats 8000000 in
set_option maxRecDepth 100000 in
theorem sure_0101 (A0 : Option Addr) (c0 : Nat) (l0 : List Int) (a1 : Bool) (a2 : Int) (w : World) (b2 b4 : Bool) (mo ro : Int) (k2 k3 k4 k5 : Int) (hk1 : 0 ≤ k4) (hk2 : k4 ≤ 2) (hk3 : 0 ≤ k5) (hk4 : k5 ≤ 3)
    (HR0 : Aside0 (Kd.C (Kd.int .u8) w A0 l0.length l0)) (HC0 : Aside0 (l0.length ≤ c0)) (Q : Aside0 (sensor_Barrier.f l0 a1 = some (false, b2, true, false))) (M : Aside0 (sensor_Mode.f l0 a1 = some mo)) (R : Aside0 (sensor_Routes.f l0 a1 a2 = some ro)) (K : Aside0 (sensor_Counts.f l0 a1 = some (true, k2, k3, k4, k5)))
    (hm0 : 0 ≤ mo) (hm2 : mo ≤ 2) (hr1 : 0 ≤ ro) (hr2 : ro < 256) (hbig : ¬ 300 < l0.length) (t1 : decide (a2 < 1) = true) :
    Calls Try.prog 6 #[.slice A0 l0.length c0, .bool a1, .int .i64 a2] w fun e w' => e = .returned (.bool true) ∧ Below w.heap.size w w' := by
  go_enter Try.func6, Try.ntmps6
  go_wp2_with fail
  refine (small_true _).mono ?_
  rintro e w1 ⟨rfl, hb⟩
  have B1 := Aside0.mk hb
  clear hb
  go_wp2_with fail
  refine (sensor_Barrier.calls _ _ l0 a1 false b2 true false _ (Kd.C_below HR0.out B1.out) HC0.out Q.out).mono ?_
  rintro e w2 ⟨rfl, hb⟩
  have B2 := Aside0.mk (below_step B1.out hb)
  clear hb
  go_wp2_with fail
  refine (sensor_Routes.calls _ _ l0 a1 a2 ro _ (Kd.C_alloc (Kd.C_below HR0.out B2.out) _) HC0.out R.out).mono ?_
  rintro e w3 ⟨rfl, hb⟩
  have D3 := Aside0.mk hb
  have B3 := btrans (balloc B2 _) D3
  clear hb
  go_wp2_with fail
  refine (sensor_Mode.calls _ _ l0 a1 mo _ (Kd.C_below HR0.out B3.out) HC0.out M.out).mono ?_
  rintro e w4 ⟨rfl, hb⟩
  have D4 := btrans D3 (Aside0.mk hb.below)
  have B4 := Aside0.mk (below_step B3.out hb.below)
  clear hb
  go_wp2_with fail
  refine (sensor_Counts.calls _ _ l0 a1 true k2 k3 k4 k5 _ (Kd.C_below HR0.out B4.out) HC0.out K.out).mono ?_
  rintro e w5 ⟨rfl, hb⟩
  have D5 := btrans D4 (Aside0.mk hb)
  have B5 := Aside0.mk (below_step B4.out hb)
  clear hb
  have c0 : w5.cell? ⟨w2.heap.size, 0, none⟩ = some (.bool false) := bcellA D5 (cell_new _ _ _ 0)
  have c1 : w5.cell? ⟨w2.heap.size, 1, none⟩ = some (.bool b2) := bcellA D5 (cell_new _ _ _ 1)
  have c2 : w5.cell? ⟨w2.heap.size, 2, none⟩ = some (.bool true) := bcellA D5 (cell_new _ _ _ 2)
  have c3 : w5.cell? ⟨w2.heap.size, 3, none⟩ = some (.bool false) := bcellA D5 (cell_new _ _ _ 3)
  have hlt : w2.heap.size < w5.heap.size := by have := D5.out.size; simp at this; omega
  clear B1 B2 B3 B4 D3 D4 D5 Q M R K HR0 HC0
  go_wp2
  go_ret
  exact ⟨rfl, by repeat (first | exact B5.out | apply below_alloc)⟩
set_option maxHeartbeats 8000000 in
set_option maxRecDepth 100000 in
theorem sure_0110 (A0 : Option Addr) (c0 : Nat) (l0 : List Int) (a1 : Bool) (a2 : Int) (w : World) (b2 b4 : Bool) (mo ro : Int)
    (HR0 : Aside0 (Kd.C (Kd.int .u8) w A0 l0.length l0)) (HC0 : Aside0 (l0.length ≤ c0)) (Q : Aside0 (sensor_Barrier.f l0 a1 = some (false, b2, true, false))) (M : Aside0 (sensor_Mode.f l0 a1 = some mo)) (R : Aside0 (sensor_Routes.f l0 a1 a2 = some ro)) (K : Aside0 (sensor_Counts.f l0 a1 = some (false, 0, 0, 0, 0)))
    (hm0 : 0 ≤ mo) (hm2 : mo ≤ 2) (hr1 : 0 ≤ ro) (hr2 : ro < 256) (hbig : ¬ 300 < l0.length) (t1 : decide (a2 < 1) = false) (t2 : decide (8 < a2) = true) :
    Calls Try.prog 6 #[.slice A0 l0.length c0, .bool a1, .int .i64 a2] w fun e w' => e = .returned (.bool true) ∧ Below w.heap.size w w' := by
  go_enter Try.func6, Try.ntmps6
  go_wp2_with fail
  refine (small_true _).mono ?_
  rintro e w1 ⟨rfl, hb⟩
  have B1 := Aside0.mk hb
  clear hb
  go_wp2_with fail
  refine (sensor_Barrier.calls _ _ l0 a1 false b2 true false _ (Kd.C_below HR0.out B1.out) HC0.out Q.out).mono ?_
  rintro e w2 ⟨rfl, hb⟩
  have B2 := Aside0.mk (below_step B1.out hb)
  clear hb
  go_wp2_with fail
  refine (sensor_Routes.calls _ _ l0 a1 a2 ro _ (Kd.C_alloc (Kd.C_below HR0.out B2.out) _) HC0.out R.out).mono ?_
  rintro e w3 ⟨rfl, hb⟩
  have D3 := Aside0.mk hb
  have B3 := btrans (balloc B2 _) D3
  clear hb
  go_wp2_with fail
  refine (sensor_Mode.calls _ _ l0 a1 mo _ (Kd.C_below HR0.out B3.out) HC0.out M.out).mono ?_
  rintro e w4 ⟨rfl, hb⟩
  have D4 := btrans D3 (Aside0.mk hb.below)
  have B4 := Aside0.mk (below_step B3.out hb.below)
  clear hb
  go_wp2_with fail
  refine (sensor_Counts.calls _ _ l0 a1 false 0 0 0 0 _ (Kd.C_below HR0.out B4.out) HC0.out K.out).mono ?_
  rintro e w5 ⟨rfl, hb⟩
  have D5 := btrans D4 (Aside0.mk hb)
  have B5 := Aside0.mk (below_step B4.out hb)
  clear hb
  have c0 : w5.cell? ⟨w2.heap.size, 0, none⟩ = some (.bool false) := bcellA D5 (cell_new _ _ _ 0)
  have c1 : w5.cell? ⟨w2.heap.size, 1, none⟩ = some (.bool b2) := bcellA D5 (cell_new _ _ _ 1)
  have c2 : w5.cell? ⟨w2.heap.size, 2, none⟩ = some (.bool true) := bcellA D5 (cell_new _ _ _ 2)
  have c3 : w5.cell? ⟨w2.heap.size, 3, none⟩ = some (.bool false) := bcellA D5 (cell_new _ _ _ 3)
  have hlt : w2.heap.size < w5.heap.size := by have := D5.out.size; simp at this; omega
  clear B1 B2 B3 B4 D3 D4 D5 Q M R K HR0 HC0
  go_wp2
  go_ret
  exact ⟨rfl, by repeat (first | exact B5.out | apply below_alloc)⟩
set_option maxHeartbeats 8000000 in
set_option maxRecDepth 100000 in
theorem sure_0111 (A0 : Option Addr) (c0 : Nat) (l0 : List Int) (a1 : Bool) (a2 : Int) (w : World) (b2 b4 : Bool) (mo ro : Int) (k2 k3 k4 k5 : Int) (hk1 : 0 ≤ k4) (hk2 : k4 ≤ 2) (hk3 : 0 ≤ k5) (hk4 : k5 ≤ 3)
    (HR0 : Aside0 (Kd.C (Kd.int .u8) w A0 l0.length l0)) (HC0 : Aside0 (l0.length ≤ c0)) (Q : Aside0 (sensor_Barrier.f l0 a1 = some (false, b2, true, false))) (M : Aside0 (sensor_Mode.f l0 a1 = some mo)) (R : Aside0 (sensor_Routes.f l0 a1 a2 = some ro)) (K : Aside0 (sensor_Counts.f l0 a1 = some (true, k2, k3, k4, k5)))
    (hm0 : 0 ≤ mo) (hm2 : mo ≤ 2) (hr1 : 0 ≤ ro) (hr2 : ro < 256) (hbig : ¬ 300 < l0.length) (t1 : decide (a2 < 1) = false) (t2 : decide (8 < a2) = true) :
    Calls Try.prog 6 #[.slice A0 l0.length c0, .bool a1, .int .i64 a2] w fun e w' => e = .returned (.bool true) ∧ Below w.heap.size w w' := by
  go_enter Try.func6, Try.ntmps6
  go_wp2_with fail
  refine (small_true _).mono ?_
  rintro e w1 ⟨rfl, hb⟩
  have B1 := Aside0.mk hb
  clear hb
  go_wp2_with fail
  refine (sensor_Barrier.calls _ _ l0 a1 false b2 true false _ (Kd.C_below HR0.out B1.out) HC0.out Q.out).mono ?_
  rintro e w2 ⟨rfl, hb⟩
  have B2 := Aside0.mk (below_step B1.out hb)
  clear hb
  go_wp2_with fail
  refine (sensor_Routes.calls _ _ l0 a1 a2 ro _ (Kd.C_alloc (Kd.C_below HR0.out B2.out) _) HC0.out R.out).mono ?_
  rintro e w3 ⟨rfl, hb⟩
  have D3 := Aside0.mk hb
  have B3 := btrans (balloc B2 _) D3
  clear hb
  go_wp2_with fail
  refine (sensor_Mode.calls _ _ l0 a1 mo _ (Kd.C_below HR0.out B3.out) HC0.out M.out).mono ?_
  rintro e w4 ⟨rfl, hb⟩
  have D4 := btrans D3 (Aside0.mk hb.below)
  have B4 := Aside0.mk (below_step B3.out hb.below)
  clear hb
  go_wp2_with fail
  refine (sensor_Counts.calls _ _ l0 a1 true k2 k3 k4 k5 _ (Kd.C_below HR0.out B4.out) HC0.out K.out).mono ?_
  rintro e w5 ⟨rfl, hb⟩
  have D5 := btrans D4 (Aside0.mk hb)
  have B5 := Aside0.mk (below_step B4.out hb)
  clear hb
  have c0 : w5.cell? ⟨w2.heap.size, 0, none⟩ = some (.bool false) := bcellA D5 (cell_new _ _ _ 0)
  have c1 : w5.cell? ⟨w2.heap.size, 1, none⟩ = some (.bool b2) := bcellA D5 (cell_new _ _ _ 1)
  have c2 : w5.cell? ⟨w2.heap.size, 2, none⟩ = some (.bool true) := bcellA D5 (cell_new _ _ _ 2)
  have c3 : w5.cell? ⟨w2.heap.size, 3, none⟩ = some (.bool false) := bcellA D5 (cell_new _ _ _ 3)
  have hlt : w2.heap.size < w5.heap.size := by have := D5.out.size; simp at this; omega
  clear B1 B2 B3 B4 D3 D4 D5 Q M R K HR0 HC0
  go_wp2
  go_ret
  exact ⟨rfl, by repeat (first | exact B5.out | apply below_alloc)⟩
set_option maxHeartbeats 8000000 in
set_option maxRecDepth 100000 in
theorem sure_0120 (A0 : Option Addr) (c0 : Nat) (l0 : List Int) (a1 : Bool) (a2 : Int) (w : World) (b2 b4 : Bool) (mo ro : Int)
    (HR0 : Aside0 (Kd.C (Kd.int .u8) w A0 l0.length l0)) (HC0 : Aside0 (l0.length ≤ c0)) (Q : Aside0 (sensor_Barrier.f l0 a1 = some (false, b2, true, false))) (M : Aside0 (sensor_Mode.f l0 a1 = some mo)) (R : Aside0 (sensor_Routes.f l0 a1 a2 = some ro)) (K : Aside0 (sensor_Counts.f l0 a1 = some (false, 0, 0, 0, 0)))
    (hm0 : 0 ≤ mo) (hm2 : mo ≤ 2) (hr1 : 0 ≤ ro) (hr2 : ro < 256) (hbig : ¬ 300 < l0.length) (t1 : decide (a2 < 1) = false) (t2 : decide (8 < a2) = false) (t3 : ro / 2 ^ a2.toNat = 0) (g1 : 1 ≤ a2) (g2 : a2 ≤ 8) :
    Calls Try.prog 6 #[.slice A0 l0.length c0, .bool a1, .int .i64 a2] w fun e w' => e = .returned (.bool true) ∧ Below w.heap.size w w' := by
  go_enter Try.func6, Try.ntmps6
  go_wp2_with fail
  refine (small_true _).mono ?_
  rintro e w1 ⟨rfl, hb⟩
  have B1 := Aside0.mk hb
  clear hb
  go_wp2_with fail
  refine (sensor_Barrier.calls _ _ l0 a1 false b2 true false _ (Kd.C_below HR0.out B1.out) HC0.out Q.out).mono ?_
  rintro e w2 ⟨rfl, hb⟩
  have B2 := Aside0.mk (below_step B1.out hb)
  clear hb
  go_wp2_with fail
  refine (sensor_Routes.calls _ _ l0 a1 a2 ro _ (Kd.C_alloc (Kd.C_below HR0.out B2.out) _) HC0.out R.out).mono ?_
  rintro e w3 ⟨rfl, hb⟩
  have D3 := Aside0.mk hb
  have B3 := btrans (balloc B2 _) D3
  clear hb
  go_wp2_with fail
  refine (sensor_Mode.calls _ _ l0 a1 mo _ (Kd.C_below HR0.out B3.out) HC0.out M.out).mono ?_
  rintro e w4 ⟨rfl, hb⟩
  have D4 := btrans D3 (Aside0.mk hb.below)
  have B4 := Aside0.mk (below_step B3.out hb.below)
  clear hb
  go_wp2_with fail
  refine (sensor_Counts.calls _ _ l0 a1 false 0 0 0 0 _ (Kd.C_below HR0.out B4.out) HC0.out K.out).mono ?_
  rintro e w5 ⟨rfl, hb⟩
  have D5 := btrans D4 (Aside0.mk hb)
  have B5 := Aside0.mk (below_step B4.out hb)
  clear hb
  have c0 : w5.cell? ⟨w2.heap.size, 0, none⟩ = some (.bool false) := bcellA D5 (cell_new _ _ _ 0)
  have c1 : w5.cell? ⟨w2.heap.size, 1, none⟩ = some (.bool b2) := bcellA D5 (cell_new _ _ _ 1)
  have c2 : w5.cell? ⟨w2.heap.size, 2, none⟩ = some (.bool true) := bcellA D5 (cell_new _ _ _ 2)
  have c3 : w5.cell? ⟨w2.heap.size, 3, none⟩ = some (.bool false) := bcellA D5 (cell_new _ _ _ 3)
  have hlt : w2.heap.size < w5.heap.size := by have := D5.out.size; simp at this; omega
  clear B1 B2 B3 B4 D3 D4 D5 Q M R K HR0 HC0
  go_wp2
  go_ret
  exact ⟨rfl, by repeat (first | exact B5.out | apply below_alloc)⟩
set_option maxHeartbeats 8000000 in
set_option maxRecDepth 100000 in
theorem sure_0121 (A0 : Option Addr) (c0 : Nat) (l0 : List Int) (a1 : Bool) (a2 : Int) (w : World) (b2 b4 : Bool) (mo ro : Int) (k2 k3 k4 k5 : Int) (hk1 : 0 ≤ k4) (hk2 : k4 ≤ 2) (hk3 : 0 ≤ k5) (hk4 : k5 ≤ 3)
    (HR0 : Aside0 (Kd.C (Kd.int .u8) w A0 l0.length l0)) (HC0 : Aside0 (l0.length ≤ c0)) (Q : Aside0 (sensor_Barrier.f l0 a1 = some (false, b2, true, false))) (M : Aside0 (sensor_Mode.f l0 a1 = some mo)) (R : Aside0 (sensor_Routes.f l0 a1 a2 = some ro)) (K : Aside0 (sensor_Counts.f l0 a1 = some (true, k2, k3, k4, k5)))
    (hm0 : 0 ≤ mo) (hm2 : mo ≤ 2) (hr1 : 0 ≤ ro) (hr2 : ro < 256) (hbig : ¬ 300 < l0.length) (t1 : decide (a2 < 1) = false) (t2 : decide (8 < a2) = false) (t3 : ro / 2 ^ a2.toNat = 0) (g1 : 1 ≤ a2) (g2 : a2 ≤ 8) :
    Calls Try.prog 6 #[.slice A0 l0.length c0, .bool a1, .int .i64 a2] w fun e w' => e = .returned (.bool true) ∧ Below w.heap.size w w' := by
  go_enter Try.func6, Try.ntmps6
  go_wp2_with fail
  refine (small_true _).mono ?_
  rintro e w1 ⟨rfl, hb⟩
  have B1 := Aside0.mk hb
  clear hb
  go_wp2_with fail
  refine (sensor_Barrier.calls _ _ l0 a1 false b2 true false _ (Kd.C_below HR0.out B1.out) HC0.out Q.out).mono ?_
  rintro e w2 ⟨rfl, hb⟩
  have B2 := Aside0.mk (below_step B1.out hb)
  clear hb
  go_wp2_with fail
  refine (sensor_Routes.calls _ _ l0 a1 a2 ro _ (Kd.C_alloc (Kd.C_below HR0.out B2.out) _) HC0.out R.out).mono ?_
  rintro e w3 ⟨rfl, hb⟩
  have D3 := Aside0.mk hb
  have B3 := btrans (balloc B2 _) D3
  clear hb
  go_wp2_with fail
  refine (sensor_Mode.calls _ _ l0 a1 mo _ (Kd.C_below HR0.out B3.out) HC0.out M.out).mono ?_
  rintro e w4 ⟨rfl, hb⟩
  have D4 := btrans D3 (Aside0.mk hb.below)
  have B4 := Aside0.mk (below_step B3.out hb.below)
  clear hb
  go_wp2_with fail
  refine (sensor_Counts.calls _ _ l0 a1 true k2 k3 k4 k5 _ (Kd.C_below HR0.out B4.out) HC0.out K.out).mono ?_
  rintro e w5 ⟨rfl, hb⟩
  have D5 := btrans D4 (Aside0.mk hb)
  have B5 := Aside0.mk (below_step B4.out hb)
  clear hb
  have c0 : w5.cell? ⟨w2.heap.size, 0, none⟩ = some (.bool false) := bcellA D5 (cell_new _ _ _ 0)
  have c1 : w5.cell? ⟨w2.heap.size, 1, none⟩ = some (.bool b2) := bcellA D5 (cell_new _ _ _ 1)
  have c2 : w5.cell? ⟨w2.heap.size, 2, none⟩ = some (.bool true) := bcellA D5 (cell_new _ _ _ 2)
  have c3 : w5.cell? ⟨w2.heap.size, 3, none⟩ = some (.bool false) := bcellA D5 (cell_new _ _ _ 3)
  have hlt : w2.heap.size < w5.heap.size := by have := D5.out.size; simp at this; omega
  clear B1 B2 B3 B4 D3 D4 D5 Q M R K HR0 HC0
  go_wp2
  go_ret
  exact ⟨rfl, by repeat (first | exact B5.out | apply below_alloc)⟩
end Go.Proofs.Ythefjcpddiggkaa.PS
