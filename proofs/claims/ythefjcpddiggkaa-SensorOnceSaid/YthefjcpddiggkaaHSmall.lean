/- The small case of the sensor laws comes out right: crossbucklaw13.small returns true, of whatever memory. -/
import Derived.Test.YthefjcpddiggkaaPSx6
import Derived.Test.YthefjcpddiggkaaPSx1
import Derived.Test.YthefjcpddiggkaaPSx2
namespace Go.Proofs.Ythefjcpddiggkaa.PS
open Go.RowKit Go.Proofs.YthefjcpddiggkaaW.PrintWords Go.Proofs.YthefjcpddiggkaaW.PrintLast Go.Proofs.YthefjcpddiggkaaW.PrintMore
attribute [local go_sem] max2_int min2_int max_two min_two max_three min_three max_four min_four
set_option linter.unusedVariables false
set_option linter.unusedSimpArgs false

theorem lit_C (W : World) (xs : List Int) (e : TypeId) (hx : xs.length ≤ 100) : Kd.C (Kd.int .u8) (W.alloc (.cells (nums .u8 xs).toArray e)) (some ⟨W.heap.size, 0, none⟩) xs.length xs := by
  refine ⟨rfl, by omega, fun h => ⟨_, rfl, fun j p hp => ⟨[.int .u8 p], rfl, rfl, fun i u hu => ?_⟩⟩⟩
  have hi : i = 0 := by
    rcases i with _ | i
    · rfl
    · simp at hu
  subst hi
  have hu' : u = .int .u8 p := by simpa using hu.symm
  subst hu'
  have hj : j < xs.length := (List.getElem?_eq_some_iff.1 hp).1
  have hpe : xs[j] = p := (List.getElem?_eq_some_iff.1 hp).2
  rw [add_plain, World.cell?_alloc_at _ _ _ _ rfl]
  simp [nums, show (Kd.int .u8).sz = 1 from rfl, List.getElem?_eq_getElem hj, hpe]
theorem nil_C (w : World) : Kd.C (Kd.int .u8) w none 0 ([] : List Int) := ⟨rfl, by omega, fun h => absurd h (by omega)⟩
theorem below_lit {W w' : World} (o : Obj) (h : Below (W.alloc o).heap.size (W.alloc o) w') : Below W.heap.size W w' :=
  below_then ((Below.refl _ _).alloc (Nat.le_refl _) o) (by simp) h
theorem drawn_lit {W w' : World} (o : Obj) (h : Drawn0 (W.alloc o) w') : Below W.heap.size W w' := below_lit o h.below

/-- A function over one byte of the call's own making. -/
def One (f : Nat) (x : Int) (more : List Value) (v : Value) : Prop := ∀ W : World,
  Calls Try.prog f (#[.slice (some ⟨W.heap.size, 0, none⟩) 1 1] ++ more.toArray) (W.alloc (.cells #[.int .u8 x] 5)) fun e w' => e = .returned v ∧ Below W.heap.size W w'
theorem power1 (W : World) : Calls Try.prog 9 #[.slice (some ⟨W.heap.size, 0, none⟩) 1 1, .bool true] (W.alloc (.cells #[.int .u8 1] 5)) fun e w' => e = .returned (.tuple #[.bool true, .bool false]) ∧ Below W.heap.size W w' :=
  (sensor_Power.calls (some ⟨W.heap.size, 0, none⟩) 1 [1] true true false _ (lit_C W [1] 5 (by decide)) (by decide) (by kernel_rfl)).mono fun _ _ ⟨h1, h2⟩ => ⟨h1, drawn_lit _ h2⟩
theorem mode_nil (W : World) : Calls Try.prog 17 #[.slice none 0 0, .bool true] W fun e w' => e = .returned (.int .i64 1) ∧ Below W.heap.size W w' :=
  (sensor_Mode.calls none 0 [] true 1 _ (nil_C W) (by decide) (by kernel_rfl)).mono fun _ _ ⟨h1, h2⟩ => ⟨h1, h2.below⟩
theorem mode2 (W : World) : Calls Try.prog 17 #[.slice (some ⟨W.heap.size, 0, none⟩) 1 1, .bool true] (W.alloc (.cells #[.int .u8 2] 5)) fun e w' => e = .returned (.int .i64 2) ∧ Below W.heap.size W w' :=
  (sensor_Mode.calls (some ⟨W.heap.size, 0, none⟩) 1 [2] true 2 _ (lit_C W [2] 5 (by decide)) (by decide) (by kernel_rfl)).mono fun _ _ ⟨h1, h2⟩ => ⟨h1, drawn_lit _ h2⟩
theorem obst_nil (W : World) : Calls Try.prog 15 #[.slice none 0 0, .bool false] W fun e w' => e = .returned (.bool true) ∧ Below W.heap.size W w' :=
  (sensor_Obstacle.calls none 0 [] false true _ (nil_C W) (by decide) (by kernel_rfl)).mono fun _ _ ⟨h1, h2⟩ => ⟨h1, h2.below⟩
theorem obst0 (W : World) : Calls Try.prog 15 #[.slice (some ⟨W.heap.size, 0, none⟩) 1 1, .bool true] (W.alloc (.cells #[.int .u8 0] 5)) fun e w' => e = .returned (.bool false) ∧ Below W.heap.size W w' :=
  (sensor_Obstacle.calls (some ⟨W.heap.size, 0, none⟩) 1 [0] true false _ (lit_C W [0] 5 (by decide)) (by decide) (by kernel_rfl)).mono fun _ _ ⟨h1, h2⟩ => ⟨h1, drawn_lit _ h2⟩
theorem lamps1 (W : World) : Calls Try.prog 13 #[.slice (some ⟨W.heap.size, 0, none⟩) 1 1, .bool true] (W.alloc (.cells #[.int .u8 1] 5)) fun e w' => e = .returned (.bool true) ∧ Below W.heap.size W w' :=
  (sensor_Lamps.calls (some ⟨W.heap.size, 0, none⟩) 1 [1] true true _ (lit_C W [1] 5 (by decide)) (by decide) (by kernel_rfl)).mono fun _ _ ⟨h1, h2⟩ => ⟨h1, drawn_lit _ h2⟩
theorem lamps1no (W : World) : Calls Try.prog 13 #[.slice (some ⟨W.heap.size, 0, none⟩) 1 1, .bool false] (W.alloc (.cells #[.int .u8 1] 5)) fun e w' => e = .returned (.bool false) ∧ Below W.heap.size W w' :=
  (sensor_Lamps.calls (some ⟨W.heap.size, 0, none⟩) 1 [1] false false _ (lit_C W [1] 5 (by decide)) (by decide) (by kernel_rfl)).mono fun _ _ ⟨h1, h2⟩ => ⟨h1, drawn_lit _ h2⟩
theorem barr9 (W : World) : Calls Try.prog 11 #[.slice (some ⟨W.heap.size, 0, none⟩) 1 1, .bool true] (W.alloc (.cells #[.int .u8 9] 5)) fun e w' => e = .returned (.agg #[.bool true, .bool false, .bool false, .bool true]) ∧ Below W.heap.size W w' :=
  (sensor_Barrier.calls (some ⟨W.heap.size, 0, none⟩) 1 [9] true true false false true _ (lit_C W [9] 5 (by decide)) (by decide) (by kernel_rfl)).mono fun _ _ ⟨h1, h2⟩ => ⟨h1, below_lit _ h2⟩
theorem barr3 (W : World) : Calls Try.prog 11 #[.slice (some ⟨W.heap.size, 0, none⟩) 1 1, .bool true] (W.alloc (.cells #[.int .u8 3] 5)) fun e w' => e = .returned (.agg #[.bool false, .bool false, .bool false, .bool false]) ∧ Below W.heap.size W w' :=
  (sensor_Barrier.calls (some ⟨W.heap.size, 0, none⟩) 1 [3] true false false false false _ (lit_C W [3] 5 (by decide)) (by decide) (by kernel_rfl)).mono fun _ _ ⟨h1, h2⟩ => ⟨h1, below_lit _ h2⟩
theorem routes3 (W : World) : Calls Try.prog 19 #[.slice (some ⟨W.heap.size, 0, none⟩) 1 1, .bool true, .int .i64 2] (W.alloc (.cells #[.int .u8 3] 5)) fun e w' => e = .returned (.int .i64 3) ∧ Below W.heap.size W w' :=
  (sensor_Routes.calls (some ⟨W.heap.size, 0, none⟩) 1 [3] true 2 3 _ (lit_C W [3] 5 (by decide)) (by decide) (by kernel_rfl)).mono fun _ _ ⟨h1, h2⟩ => ⟨h1, below_lit _ h2⟩
theorem routes4 (W : World) : Calls Try.prog 19 #[.slice (some ⟨W.heap.size, 0, none⟩) 1 1, .bool true, .int .i64 2] (W.alloc (.cells #[.int .u8 4] 5)) fun e w' => e = .returned (.int .i64 0) ∧ Below W.heap.size W w' :=
  (sensor_Routes.calls (some ⟨W.heap.size, 0, none⟩) 1 [4] true 2 0 _ (lit_C W [4] 5 (by decide)) (by decide) (by kernel_rfl)).mono fun _ _ ⟨h1, h2⟩ => ⟨h1, below_lit _ h2⟩
theorem counts4213 (W : World) : Calls Try.prog 21 #[.slice (some ⟨W.heap.size, 0, none⟩) 4 4, .bool true] (W.alloc (.cells #[.int .u8 4, .int .u8 2, .int .u8 1, .int .u8 3] 5)) fun e w' => e = .returned (.agg #[.bool true, .int .i64 4, .int .i64 2, .int .i64 1, .int .i64 3]) ∧ Below W.heap.size W w' :=
  (sensor_Counts.calls (some ⟨W.heap.size, 0, none⟩) 4 [4, 2, 1, 3] true true 4 2 1 3 _ (lit_C W [4, 2, 1, 3] 5 (by decide)) (by decide) (by kernel_rfl)).mono fun _ _ ⟨h1, h2⟩ => ⟨h1, below_lit _ h2⟩
theorem counts4230 (W : World) : Calls Try.prog 21 #[.slice (some ⟨W.heap.size, 0, none⟩) 4 4, .bool true] (W.alloc (.cells #[.int .u8 4, .int .u8 2, .int .u8 3, .int .u8 0] 5)) fun e w' => e = .returned (.agg #[.bool false, .int .i64 0, .int .i64 0, .int .i64 0, .int .i64 0]) ∧ Below W.heap.size W w' :=
  (sensor_Counts.calls (some ⟨W.heap.size, 0, none⟩) 4 [4, 2, 3, 0] true false 0 0 0 0 _ (lit_C W [4, 2, 3, 0] 5 (by decide)) (by decide) (by kernel_rfl)).mono fun _ _ ⟨h1, h2⟩ => ⟨h1, below_lit _ h2⟩
theorem print_mode2 (W : World) : Calls Try.prog 23 #[.agg #[.bool false, .bool false, .bool false, .bool false, .bool false, .bool false, .bool false, .int .i64 2, .bool false, .bool false, .int .i64 0, .slice none 0 0], .int .i64 3] W fun e w' => ∃ v0_ : Value, e = .returned v0_ ∧ Kd.R (Kd.int .u8) 5 w' W.heap.size (fun _ => True) v0_ [2] ∧ Below W.heap.size W w' :=
  sensor_Print.calls 9 false false false false false false false 2 false false 0 none 0 [] 3 [2] _ ⟨rfl, by decide, fun h => absurd h (by decide)⟩ (by decide) (by kernel_rfl)

theorem btrans {w w1 w2 : World} (h : Aside0 (Below w.heap.size w w1)) (k : Aside0 (Below w1.heap.size w1 w2)) : Aside0 (Below w.heap.size w w2) := ⟨below_then h.out h.out.size k.out⟩
theorem balloc {w w1 : World} (h : Aside0 (Below w.heap.size w w1)) (o : Obj) : Aside0 (Below w.heap.size w (w1.alloc o)) := ⟨below_alloc h.out o⟩
theorem bcellA {w w1 : World} (h : Aside0 (Below w.heap.size w w1)) {a : Addr} {v : Value} (hc : w.cell? a = some v) : w1.cell? a = some v := pw_cell_below h.out hc
theorem cell_new (w : World) (c : Array Value) (t : TypeId) (i : Nat) : (w.alloc (.cells c t)).cell? ⟨w.heap.size, i, none⟩ = c[i]? := World.cell?_alloc_new _ _ _ _
attribute [local go_sem high] eqA27 eqA33
set_option maxHeartbeats 4000000 in
set_option maxRecDepth 100000 in
theorem small_true (w : World) : Calls Try.prog 8 #[] w fun e w' => e = .returned (.bool true) ∧ Below w.heap.size w w' := by
  go_enter Try.func8, Try.ntmps8
  go_wp2_with fail
  refine (power1 _).mono ?_
  rintro e w1 ⟨rfl, hb⟩
  have C1 := Aside0.mk hb
  clear hb
  have B1 := C1
  go_wp2_with fail
  refine (counts4213 _).mono ?_
  rintro e w2 ⟨rfl, hb⟩
  have C2 := Aside0.mk hb
  clear hb
  have B2 := btrans B1 C2
  go_wp2_with fail
  refine (mode_nil _).mono ?_
  rintro e w3 ⟨rfl, hb⟩
  have C3 := Aside0.mk hb
  clear hb
  have D3 := C3
  have B3 := btrans (balloc B2 _) C3
  go_wp2_with fail
  refine (mode2 _).mono ?_
  rintro e w4 ⟨rfl, hb⟩
  have C4 := Aside0.mk hb
  clear hb
  have B4 := btrans B3 C4
  have D4 := btrans D3 C4
  go_wp2_with fail
  refine (obst_nil _).mono ?_
  rintro e w5 ⟨rfl, hb⟩
  have C5 := Aside0.mk hb
  clear hb
  have B5 := btrans B4 C5
  have D5 := btrans D4 C5
  go_wp2_with fail
  refine (obst0 _).mono ?_
  rintro e w6 ⟨rfl, hb⟩
  have C6 := Aside0.mk hb
  clear hb
  have B6 := btrans B5 C6
  have D6 := btrans D5 C6
  go_wp2_with fail
  refine (lamps1 _).mono ?_
  rintro e w7 ⟨rfl, hb⟩
  have C7 := Aside0.mk hb
  clear hb
  have B7 := btrans B6 C7
  have D7 := btrans D6 C7
  go_wp2_with fail
  refine (lamps1no _).mono ?_
  rintro e w8 ⟨rfl, hb⟩
  have C8 := Aside0.mk hb
  clear hb
  have B8 := btrans B7 C8
  have D8 := btrans D7 C8
  go_wp2_with fail
  refine (barr9 _).mono ?_
  rintro e w9 ⟨rfl, hb⟩
  have C9 := Aside0.mk hb
  clear hb
  have B9 := btrans B8 C9
  have D9 := btrans D8 C9
  go_wp2_with fail
  refine (barr3 _).mono ?_
  rintro e w10 ⟨rfl, hb⟩
  have C10 := Aside0.mk hb
  clear hb
  have B10 := btrans B9 C10
  have D10 := btrans D9 C10
  go_wp2_with fail
  refine (routes3 _).mono ?_
  rintro e w11 ⟨rfl, hb⟩
  have C11 := Aside0.mk hb
  clear hb
  have B11 := btrans B10 C11
  have D11 := btrans D10 C11
  go_wp2_with fail
  refine (routes4 _).mono ?_
  rintro e w12 ⟨rfl, hb⟩
  have C12 := Aside0.mk hb
  clear hb
  have B12 := btrans B11 C12
  have D12 := btrans D11 C12
  have c0 : w12.cell? ⟨w2.heap.size, 0, none⟩ = some (.bool true) := bcellA D12 (cell_new _ _ _ 0)
  have c1 : w12.cell? ⟨w2.heap.size, 1, none⟩ = some (.int .i64 4) := bcellA D12 (cell_new _ _ _ 1)
  have c2 : w12.cell? ⟨w2.heap.size, 2, none⟩ = some (.int .i64 2) := bcellA D12 (cell_new _ _ _ 2)
  have c3 : w12.cell? ⟨w2.heap.size, 3, none⟩ = some (.int .i64 1) := bcellA D12 (cell_new _ _ _ 3)
  have c4 : w12.cell? ⟨w2.heap.size, 4, none⟩ = some (.int .i64 3) := bcellA D12 (cell_new _ _ _ 4)
  go_wp2_with fail
  refine (counts4230 _).mono ?_
  rintro e w13 ⟨rfl, hb⟩
  have C13 := Aside0.mk hb
  clear hb
  have B13 := btrans B12 C13
  have D13 := btrans D12 C13
  clear c0 c1 c2 c3 c4
  go_wp2_with fail
  refine (print_mode2 _).mono ?_
  rintro e w14 ⟨v, rfl, hr, hb⟩
  have C14 := Aside0.mk hb
  have B14 := btrans B13 C14
  clear hb
  obtain ⟨A, c, rfl, _, hr2⟩ := Kd.R_reads hr
  have hcv : (convert 22 9 (.slice A 1 c)).run Try.prog w14 = .ok (.string ⟨#[2]⟩) w14 := Kd.C_string (P := Try.prog) (src := 22) (dst := 9) (e := 5) Try.underlying22 Try.underlying5 Try.underlying9 hr2
  clear hr hr2
  go_wp2
  go_ret
  exact ⟨rfl, B14.out⟩

def crossbucklaw13_small.f  : Option (Bool) := some true
theorem crossbucklaw13_small.calls  (r : Bool) (w : World) (h : crossbucklaw13_small.f  = some r) :
    Calls Try.prog 8 #[] w fun e w' => e = .returned (.bool r) ∧ Below w.heap.size w w' := by
  obtain rfl := Option.some.inj h
  exact small_true w
end Go.Proofs.Ythefjcpddiggkaa.PS
