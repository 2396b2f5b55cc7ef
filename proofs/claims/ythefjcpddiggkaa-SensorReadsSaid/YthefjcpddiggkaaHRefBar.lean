/- The reference's Barrier: what it returns of each byte. -/
import Derived.Test.YthefjcpddiggkaaPSx7
namespace Go.Proofs.Ythefjcpddiggkaa.PS
open Go.RowKit Go.Proofs.YthefjcpddiggkaaW.PrintWords Go.Proofs.YthefjcpddiggkaaW.PrintLast Go.Proofs.YthefjcpddiggkaaW.PrintMore
attribute [local go_sem] max2_int min2_int max_two min_two max_three min_three max_four min_four
set_option linter.unusedVariables false
set_option linter.unusedSimpArgs false

/-! ### crossbuckref13_Barrier: function 12, by hand: a walk for each byte -/
theorem below_set0 {w W : World} (h : Below w.heap.size w W) (i : Nat) (u : Value) : Below w.heap.size w (W.setCell ⟨w.heap.size, i, none⟩ u) := h.setCell (Nat.le_refl _) u
def refBar (n : Int) : Bool × Bool × Bool × Bool :=
  if n = 0 then (false, false, false, false) else if n = 1 then (true, false, false, false) else if n = 2 then (false, true, false, false) else if n = 3 then (false, false, false, false) else if n = 4 then (false, false, true, false) else if n = 5 then (true, false, true, false) else if n = 6 then (false, true, true, false) else if n = 7 then (false, false, true, false) else if n = 8 then (false, false, false, true) else if n = 9 then (true, false, false, true) else if n = 10 then (false, true, false, true) else if n = 11 then (false, false, false, true) else if n = 12 then (false, false, false, false) else if n = 13 then (true, false, false, false) else if n = 14 then (false, true, false, false) else if n = 15 then (false, false, false, false) else (false, false, false, false)
def crossbuckref13_Barrier.f (k : Nat) (l0 : List Int) (a1 : Bool) : Option (Bool × Bool × Bool × Bool) := (crossbuckref13_one.f l0 a1).bind fun n => some (refBar n)
theorem crossbuckref13_Barrier.mono : ∀ a0 a1 k, LeO (crossbuckref13_Barrier.f k a0 a1) (crossbuckref13_Barrier.f (k + 1) a0 a1) := fun _ _ _ => fun _ h => h
set_option maxHeartbeats 2000000 in
theorem refBar_neg (A0 : Option Addr) (c0 : Nat) (l0 : List Int) (a1 : Bool) (n : Int) (hn : n < 0) (w : World) (hr0 : Kd.C (Kd.int .u8) w A0 l0.length l0) (hc0 : l0.length ≤ c0) (h : crossbuckref13_one.f l0 a1 = some n) :
    Calls Try.prog 12 #[.slice A0 l0.length c0, .bool a1] w fun e w' => e = .returned (.agg #[.bool false, .bool false, .bool false, .bool false]) ∧ Below w.heap.size w w' := by
  have HR0 := Aside0.mk hr0
  have HC0 := Aside0.mk hc0
  have H := Aside0.mk h
  clear hr0 hc0 h
  have b1 : decide (n < 0) = true := decide_eq_true hn
  go_enter Try.func12, Try.ntmps12
  go_wp2_with fail
  refine (crossbuckref13_one.calls _ _ l0 a1 n _ (Kd.C_alloc HR0.out _) HC0.out H.out).mono ?_
  rintro e w1 ⟨rfl, ⟨nd, rfl⟩⟩
  go_wp2
  exact bodyPost_ret (v := .agg #[.bool false, .bool false, .bool false, .bool false]) (by simp [results, Try.results12, go_sem]) rfl ⟨rfl, by (with_reducible repeat (first | exact Below.refl _ _ | refine below_set0 ?_ _ _ | refine below_alloc ?_ _ | refine pw_below_drewN ?_ _))⟩
set_option maxHeartbeats 2000000 in
theorem refBar_big (A0 : Option Addr) (c0 : Nat) (l0 : List Int) (a1 : Bool) (n : Int) (hn : 15 < n) (hp : 0 ≤ n) (w : World) (hr0 : Kd.C (Kd.int .u8) w A0 l0.length l0) (hc0 : l0.length ≤ c0) (h : crossbuckref13_one.f l0 a1 = some n) :
    Calls Try.prog 12 #[.slice A0 l0.length c0, .bool a1] w fun e w' => e = .returned (.agg #[.bool false, .bool false, .bool false, .bool false]) ∧ Below w.heap.size w w' := by
  have HR0 := Aside0.mk hr0
  have HC0 := Aside0.mk hc0
  have H := Aside0.mk h
  clear hr0 hc0 h
  have b1 : decide (n < 0) = false := decide_eq_false (by omega)
  have b2 : decide (15 < n) = true := decide_eq_true hn
  go_enter Try.func12, Try.ntmps12
  go_wp2_with fail
  refine (crossbuckref13_one.calls _ _ l0 a1 n _ (Kd.C_alloc HR0.out _) HC0.out H.out).mono ?_
  rintro e w1 ⟨rfl, ⟨nd, rfl⟩⟩
  go_wp2
  exact bodyPost_ret (v := .agg #[.bool false, .bool false, .bool false, .bool false]) (by simp [results, Try.results12, go_sem]) rfl ⟨rfl, by (with_reducible repeat (first | exact Below.refl _ _ | refine below_set0 ?_ _ _ | refine below_alloc ?_ _ | refine pw_below_drewN ?_ _))⟩
set_option maxHeartbeats 2000000 in
theorem refBar_0 (A0 : Option Addr) (c0 : Nat) (l0 : List Int) (a1 : Bool) (w : World) (hr0 : Kd.C (Kd.int .u8) w A0 l0.length l0) (hc0 : l0.length ≤ c0) (h : crossbuckref13_one.f l0 a1 = some 0) :
    Calls Try.prog 12 #[.slice A0 l0.length c0, .bool a1] w fun e w' => e = .returned (.agg #[.bool false, .bool false, .bool false, .bool false]) ∧ Below w.heap.size w w' := by
  have HR0 := Aside0.mk hr0
  have HC0 := Aside0.mk hc0
  have H := Aside0.mk h
  clear hr0 hc0 h
  go_enter Try.func12, Try.ntmps12
  go_wp2_with fail
  refine (crossbuckref13_one.calls _ _ l0 a1 0 _ (Kd.C_alloc HR0.out _) HC0.out H.out).mono ?_
  rintro e w1 ⟨rfl, ⟨nd, rfl⟩⟩
  go_wp2
  exact bodyPost_ret (v := .agg #[.bool false, .bool false, .bool false, .bool false]) (by simp [results, Try.results12, go_sem]) rfl ⟨rfl, by (with_reducible repeat (first | exact Below.refl _ _ | refine below_set0 ?_ _ _ | refine below_alloc ?_ _ | refine pw_below_drewN ?_ _))⟩
set_option maxHeartbeats 2000000 in
theorem refBar_1 (A0 : Option Addr) (c0 : Nat) (l0 : List Int) (a1 : Bool) (w : World) (hr0 : Kd.C (Kd.int .u8) w A0 l0.length l0) (hc0 : l0.length ≤ c0) (h : crossbuckref13_one.f l0 a1 = some 1) :
    Calls Try.prog 12 #[.slice A0 l0.length c0, .bool a1] w fun e w' => e = .returned (.agg #[.bool true, .bool false, .bool false, .bool false]) ∧ Below w.heap.size w w' := by
  have HR0 := Aside0.mk hr0
  have HC0 := Aside0.mk hc0
  have H := Aside0.mk h
  clear hr0 hc0 h
  go_enter Try.func12, Try.ntmps12
  go_wp2_with fail
  refine (crossbuckref13_one.calls _ _ l0 a1 1 _ (Kd.C_alloc HR0.out _) HC0.out H.out).mono ?_
  rintro e w1 ⟨rfl, ⟨nd, rfl⟩⟩
  go_wp2
  exact bodyPost_ret (v := .agg #[.bool true, .bool false, .bool false, .bool false]) (by simp [results, Try.results12, go_sem]) rfl ⟨rfl, by (with_reducible repeat (first | exact Below.refl _ _ | refine below_set0 ?_ _ _ | refine below_alloc ?_ _ | refine pw_below_drewN ?_ _))⟩
set_option maxHeartbeats 2000000 in
theorem refBar_2 (A0 : Option Addr) (c0 : Nat) (l0 : List Int) (a1 : Bool) (w : World) (hr0 : Kd.C (Kd.int .u8) w A0 l0.length l0) (hc0 : l0.length ≤ c0) (h : crossbuckref13_one.f l0 a1 = some 2) :
    Calls Try.prog 12 #[.slice A0 l0.length c0, .bool a1] w fun e w' => e = .returned (.agg #[.bool false, .bool true, .bool false, .bool false]) ∧ Below w.heap.size w w' := by
  have HR0 := Aside0.mk hr0
  have HC0 := Aside0.mk hc0
  have H := Aside0.mk h
  clear hr0 hc0 h
  go_enter Try.func12, Try.ntmps12
  go_wp2_with fail
  refine (crossbuckref13_one.calls _ _ l0 a1 2 _ (Kd.C_alloc HR0.out _) HC0.out H.out).mono ?_
  rintro e w1 ⟨rfl, ⟨nd, rfl⟩⟩
  go_wp2
  exact bodyPost_ret (v := .agg #[.bool false, .bool true, .bool false, .bool false]) (by simp [results, Try.results12, go_sem]) rfl ⟨rfl, by (with_reducible repeat (first | exact Below.refl _ _ | refine below_set0 ?_ _ _ | refine below_alloc ?_ _ | refine pw_below_drewN ?_ _))⟩
set_option maxHeartbeats 2000000 in
theorem refBar_3 (A0 : Option Addr) (c0 : Nat) (l0 : List Int) (a1 : Bool) (w : World) (hr0 : Kd.C (Kd.int .u8) w A0 l0.length l0) (hc0 : l0.length ≤ c0) (h : crossbuckref13_one.f l0 a1 = some 3) :
    Calls Try.prog 12 #[.slice A0 l0.length c0, .bool a1] w fun e w' => e = .returned (.agg #[.bool false, .bool false, .bool false, .bool false]) ∧ Below w.heap.size w w' := by
  have HR0 := Aside0.mk hr0
  have HC0 := Aside0.mk hc0
  have H := Aside0.mk h
  clear hr0 hc0 h
  go_enter Try.func12, Try.ntmps12
  go_wp2_with fail
  refine (crossbuckref13_one.calls _ _ l0 a1 3 _ (Kd.C_alloc HR0.out _) HC0.out H.out).mono ?_
  rintro e w1 ⟨rfl, ⟨nd, rfl⟩⟩
  go_wp2
  exact bodyPost_ret (v := .agg #[.bool false, .bool false, .bool false, .bool false]) (by simp [results, Try.results12, go_sem]) rfl ⟨rfl, by (with_reducible repeat (first | exact Below.refl _ _ | refine below_set0 ?_ _ _ | refine below_alloc ?_ _ | refine pw_below_drewN ?_ _))⟩
set_option maxHeartbeats 2000000 in
theorem refBar_4 (A0 : Option Addr) (c0 : Nat) (l0 : List Int) (a1 : Bool) (w : World) (hr0 : Kd.C (Kd.int .u8) w A0 l0.length l0) (hc0 : l0.length ≤ c0) (h : crossbuckref13_one.f l0 a1 = some 4) :
    Calls Try.prog 12 #[.slice A0 l0.length c0, .bool a1] w fun e w' => e = .returned (.agg #[.bool false, .bool false, .bool true, .bool false]) ∧ Below w.heap.size w w' := by
  have HR0 := Aside0.mk hr0
  have HC0 := Aside0.mk hc0
  have H := Aside0.mk h
  clear hr0 hc0 h
  go_enter Try.func12, Try.ntmps12
  go_wp2_with fail
  refine (crossbuckref13_one.calls _ _ l0 a1 4 _ (Kd.C_alloc HR0.out _) HC0.out H.out).mono ?_
  rintro e w1 ⟨rfl, ⟨nd, rfl⟩⟩
  go_wp2
  exact bodyPost_ret (v := .agg #[.bool false, .bool false, .bool true, .bool false]) (by simp [results, Try.results12, go_sem]) rfl ⟨rfl, by (with_reducible repeat (first | exact Below.refl _ _ | refine below_set0 ?_ _ _ | refine below_alloc ?_ _ | refine pw_below_drewN ?_ _))⟩
set_option maxHeartbeats 2000000 in
theorem refBar_5 (A0 : Option Addr) (c0 : Nat) (l0 : List Int) (a1 : Bool) (w : World) (hr0 : Kd.C (Kd.int .u8) w A0 l0.length l0) (hc0 : l0.length ≤ c0) (h : crossbuckref13_one.f l0 a1 = some 5) :
    Calls Try.prog 12 #[.slice A0 l0.length c0, .bool a1] w fun e w' => e = .returned (.agg #[.bool true, .bool false, .bool true, .bool false]) ∧ Below w.heap.size w w' := by
  have HR0 := Aside0.mk hr0
  have HC0 := Aside0.mk hc0
  have H := Aside0.mk h
  clear hr0 hc0 h
  go_enter Try.func12, Try.ntmps12
  go_wp2_with fail
  refine (crossbuckref13_one.calls _ _ l0 a1 5 _ (Kd.C_alloc HR0.out _) HC0.out H.out).mono ?_
  rintro e w1 ⟨rfl, ⟨nd, rfl⟩⟩
  go_wp2
  exact bodyPost_ret (v := .agg #[.bool true, .bool false, .bool true, .bool false]) (by simp [results, Try.results12, go_sem]) rfl ⟨rfl, by (with_reducible repeat (first | exact Below.refl _ _ | refine below_set0 ?_ _ _ | refine below_alloc ?_ _ | refine pw_below_drewN ?_ _))⟩
set_option maxHeartbeats 2000000 in
theorem refBar_6 (A0 : Option Addr) (c0 : Nat) (l0 : List Int) (a1 : Bool) (w : World) (hr0 : Kd.C (Kd.int .u8) w A0 l0.length l0) (hc0 : l0.length ≤ c0) (h : crossbuckref13_one.f l0 a1 = some 6) :
    Calls Try.prog 12 #[.slice A0 l0.length c0, .bool a1] w fun e w' => e = .returned (.agg #[.bool false, .bool true, .bool true, .bool false]) ∧ Below w.heap.size w w' := by
  have HR0 := Aside0.mk hr0
  have HC0 := Aside0.mk hc0
  have H := Aside0.mk h
  clear hr0 hc0 h
  go_enter Try.func12, Try.ntmps12
  go_wp2_with fail
  refine (crossbuckref13_one.calls _ _ l0 a1 6 _ (Kd.C_alloc HR0.out _) HC0.out H.out).mono ?_
  rintro e w1 ⟨rfl, ⟨nd, rfl⟩⟩
  go_wp2
  exact bodyPost_ret (v := .agg #[.bool false, .bool true, .bool true, .bool false]) (by simp [results, Try.results12, go_sem]) rfl ⟨rfl, by (with_reducible repeat (first | exact Below.refl _ _ | refine below_set0 ?_ _ _ | refine below_alloc ?_ _ | refine pw_below_drewN ?_ _))⟩
set_option maxHeartbeats 2000000 in
theorem refBar_7 (A0 : Option Addr) (c0 : Nat) (l0 : List Int) (a1 : Bool) (w : World) (hr0 : Kd.C (Kd.int .u8) w A0 l0.length l0) (hc0 : l0.length ≤ c0) (h : crossbuckref13_one.f l0 a1 = some 7) :
    Calls Try.prog 12 #[.slice A0 l0.length c0, .bool a1] w fun e w' => e = .returned (.agg #[.bool false, .bool false, .bool true, .bool false]) ∧ Below w.heap.size w w' := by
  have HR0 := Aside0.mk hr0
  have HC0 := Aside0.mk hc0
  have H := Aside0.mk h
  clear hr0 hc0 h
  go_enter Try.func12, Try.ntmps12
  go_wp2_with fail
  refine (crossbuckref13_one.calls _ _ l0 a1 7 _ (Kd.C_alloc HR0.out _) HC0.out H.out).mono ?_
  rintro e w1 ⟨rfl, ⟨nd, rfl⟩⟩
  go_wp2
  exact bodyPost_ret (v := .agg #[.bool false, .bool false, .bool true, .bool false]) (by simp [results, Try.results12, go_sem]) rfl ⟨rfl, by (with_reducible repeat (first | exact Below.refl _ _ | refine below_set0 ?_ _ _ | refine below_alloc ?_ _ | refine pw_below_drewN ?_ _))⟩
set_option maxHeartbeats 2000000 in
theorem refBar_8 (A0 : Option Addr) (c0 : Nat) (l0 : List Int) (a1 : Bool) (w : World) (hr0 : Kd.C (Kd.int .u8) w A0 l0.length l0) (hc0 : l0.length ≤ c0) (h : crossbuckref13_one.f l0 a1 = some 8) :
    Calls Try.prog 12 #[.slice A0 l0.length c0, .bool a1] w fun e w' => e = .returned (.agg #[.bool false, .bool false, .bool false, .bool true]) ∧ Below w.heap.size w w' := by
  have HR0 := Aside0.mk hr0
  have HC0 := Aside0.mk hc0
  have H := Aside0.mk h
  clear hr0 hc0 h
  go_enter Try.func12, Try.ntmps12
  go_wp2_with fail
  refine (crossbuckref13_one.calls _ _ l0 a1 8 _ (Kd.C_alloc HR0.out _) HC0.out H.out).mono ?_
  rintro e w1 ⟨rfl, ⟨nd, rfl⟩⟩
  go_wp2
  exact bodyPost_ret (v := .agg #[.bool false, .bool false, .bool false, .bool true]) (by simp [results, Try.results12, go_sem]) rfl ⟨rfl, by (with_reducible repeat (first | exact Below.refl _ _ | refine below_set0 ?_ _ _ | refine below_alloc ?_ _ | refine pw_below_drewN ?_ _))⟩
set_option maxHeartbeats 2000000 in
theorem refBar_9 (A0 : Option Addr) (c0 : Nat) (l0 : List Int) (a1 : Bool) (w : World) (hr0 : Kd.C (Kd.int .u8) w A0 l0.length l0) (hc0 : l0.length ≤ c0) (h : crossbuckref13_one.f l0 a1 = some 9) :
    Calls Try.prog 12 #[.slice A0 l0.length c0, .bool a1] w fun e w' => e = .returned (.agg #[.bool true, .bool false, .bool false, .bool true]) ∧ Below w.heap.size w w' := by
  have HR0 := Aside0.mk hr0
  have HC0 := Aside0.mk hc0
  have H := Aside0.mk h
  clear hr0 hc0 h
  go_enter Try.func12, Try.ntmps12
  go_wp2_with fail
  refine (crossbuckref13_one.calls _ _ l0 a1 9 _ (Kd.C_alloc HR0.out _) HC0.out H.out).mono ?_
  rintro e w1 ⟨rfl, ⟨nd, rfl⟩⟩
  go_wp2
  exact bodyPost_ret (v := .agg #[.bool true, .bool false, .bool false, .bool true]) (by simp [results, Try.results12, go_sem]) rfl ⟨rfl, by (with_reducible repeat (first | exact Below.refl _ _ | refine below_set0 ?_ _ _ | refine below_alloc ?_ _ | refine pw_below_drewN ?_ _))⟩
set_option maxHeartbeats 2000000 in
theorem refBar_10 (A0 : Option Addr) (c0 : Nat) (l0 : List Int) (a1 : Bool) (w : World) (hr0 : Kd.C (Kd.int .u8) w A0 l0.length l0) (hc0 : l0.length ≤ c0) (h : crossbuckref13_one.f l0 a1 = some 10) :
    Calls Try.prog 12 #[.slice A0 l0.length c0, .bool a1] w fun e w' => e = .returned (.agg #[.bool false, .bool true, .bool false, .bool true]) ∧ Below w.heap.size w w' := by
  have HR0 := Aside0.mk hr0
  have HC0 := Aside0.mk hc0
  have H := Aside0.mk h
  clear hr0 hc0 h
  go_enter Try.func12, Try.ntmps12
  go_wp2_with fail
  refine (crossbuckref13_one.calls _ _ l0 a1 10 _ (Kd.C_alloc HR0.out _) HC0.out H.out).mono ?_
  rintro e w1 ⟨rfl, ⟨nd, rfl⟩⟩
  go_wp2
  exact bodyPost_ret (v := .agg #[.bool false, .bool true, .bool false, .bool true]) (by simp [results, Try.results12, go_sem]) rfl ⟨rfl, by (with_reducible repeat (first | exact Below.refl _ _ | refine below_set0 ?_ _ _ | refine below_alloc ?_ _ | refine pw_below_drewN ?_ _))⟩
set_option maxHeartbeats 2000000 in
theorem refBar_11 (A0 : Option Addr) (c0 : Nat) (l0 : List Int) (a1 : Bool) (w : World) (hr0 : Kd.C (Kd.int .u8) w A0 l0.length l0) (hc0 : l0.length ≤ c0) (h : crossbuckref13_one.f l0 a1 = some 11) :
    Calls Try.prog 12 #[.slice A0 l0.length c0, .bool a1] w fun e w' => e = .returned (.agg #[.bool false, .bool false, .bool false, .bool true]) ∧ Below w.heap.size w w' := by
  have HR0 := Aside0.mk hr0
  have HC0 := Aside0.mk hc0
  have H := Aside0.mk h
  clear hr0 hc0 h
  go_enter Try.func12, Try.ntmps12
  go_wp2_with fail
  refine (crossbuckref13_one.calls _ _ l0 a1 11 _ (Kd.C_alloc HR0.out _) HC0.out H.out).mono ?_
  rintro e w1 ⟨rfl, ⟨nd, rfl⟩⟩
  go_wp2
  exact bodyPost_ret (v := .agg #[.bool false, .bool false, .bool false, .bool true]) (by simp [results, Try.results12, go_sem]) rfl ⟨rfl, by (with_reducible repeat (first | exact Below.refl _ _ | refine below_set0 ?_ _ _ | refine below_alloc ?_ _ | refine pw_below_drewN ?_ _))⟩
set_option maxHeartbeats 2000000 in
theorem refBar_12 (A0 : Option Addr) (c0 : Nat) (l0 : List Int) (a1 : Bool) (w : World) (hr0 : Kd.C (Kd.int .u8) w A0 l0.length l0) (hc0 : l0.length ≤ c0) (h : crossbuckref13_one.f l0 a1 = some 12) :
    Calls Try.prog 12 #[.slice A0 l0.length c0, .bool a1] w fun e w' => e = .returned (.agg #[.bool false, .bool false, .bool false, .bool false]) ∧ Below w.heap.size w w' := by
  have HR0 := Aside0.mk hr0
  have HC0 := Aside0.mk hc0
  have H := Aside0.mk h
  clear hr0 hc0 h
  go_enter Try.func12, Try.ntmps12
  go_wp2_with fail
  refine (crossbuckref13_one.calls _ _ l0 a1 12 _ (Kd.C_alloc HR0.out _) HC0.out H.out).mono ?_
  rintro e w1 ⟨rfl, ⟨nd, rfl⟩⟩
  go_wp2
  exact bodyPost_ret (v := .agg #[.bool false, .bool false, .bool false, .bool false]) (by simp [results, Try.results12, go_sem]) rfl ⟨rfl, by (with_reducible repeat (first | exact Below.refl _ _ | refine below_set0 ?_ _ _ | refine below_alloc ?_ _ | refine pw_below_drewN ?_ _))⟩
set_option maxHeartbeats 2000000 in
theorem refBar_13 (A0 : Option Addr) (c0 : Nat) (l0 : List Int) (a1 : Bool) (w : World) (hr0 : Kd.C (Kd.int .u8) w A0 l0.length l0) (hc0 : l0.length ≤ c0) (h : crossbuckref13_one.f l0 a1 = some 13) :
    Calls Try.prog 12 #[.slice A0 l0.length c0, .bool a1] w fun e w' => e = .returned (.agg #[.bool true, .bool false, .bool false, .bool false]) ∧ Below w.heap.size w w' := by
  have HR0 := Aside0.mk hr0
  have HC0 := Aside0.mk hc0
  have H := Aside0.mk h
  clear hr0 hc0 h
  go_enter Try.func12, Try.ntmps12
  go_wp2_with fail
  refine (crossbuckref13_one.calls _ _ l0 a1 13 _ (Kd.C_alloc HR0.out _) HC0.out H.out).mono ?_
  rintro e w1 ⟨rfl, ⟨nd, rfl⟩⟩
  go_wp2
  exact bodyPost_ret (v := .agg #[.bool true, .bool false, .bool false, .bool false]) (by simp [results, Try.results12, go_sem]) rfl ⟨rfl, by (with_reducible repeat (first | exact Below.refl _ _ | refine below_set0 ?_ _ _ | refine below_alloc ?_ _ | refine pw_below_drewN ?_ _))⟩
set_option maxHeartbeats 2000000 in
theorem refBar_14 (A0 : Option Addr) (c0 : Nat) (l0 : List Int) (a1 : Bool) (w : World) (hr0 : Kd.C (Kd.int .u8) w A0 l0.length l0) (hc0 : l0.length ≤ c0) (h : crossbuckref13_one.f l0 a1 = some 14) :
    Calls Try.prog 12 #[.slice A0 l0.length c0, .bool a1] w fun e w' => e = .returned (.agg #[.bool false, .bool true, .bool false, .bool false]) ∧ Below w.heap.size w w' := by
  have HR0 := Aside0.mk hr0
  have HC0 := Aside0.mk hc0
  have H := Aside0.mk h
  clear hr0 hc0 h
  go_enter Try.func12, Try.ntmps12
  go_wp2_with fail
  refine (crossbuckref13_one.calls _ _ l0 a1 14 _ (Kd.C_alloc HR0.out _) HC0.out H.out).mono ?_
  rintro e w1 ⟨rfl, ⟨nd, rfl⟩⟩
  go_wp2
  exact bodyPost_ret (v := .agg #[.bool false, .bool true, .bool false, .bool false]) (by simp [results, Try.results12, go_sem]) rfl ⟨rfl, by (with_reducible repeat (first | exact Below.refl _ _ | refine below_set0 ?_ _ _ | refine below_alloc ?_ _ | refine pw_below_drewN ?_ _))⟩
set_option maxHeartbeats 2000000 in
theorem refBar_15 (A0 : Option Addr) (c0 : Nat) (l0 : List Int) (a1 : Bool) (w : World) (hr0 : Kd.C (Kd.int .u8) w A0 l0.length l0) (hc0 : l0.length ≤ c0) (h : crossbuckref13_one.f l0 a1 = some 15) :
    Calls Try.prog 12 #[.slice A0 l0.length c0, .bool a1] w fun e w' => e = .returned (.agg #[.bool false, .bool false, .bool false, .bool false]) ∧ Below w.heap.size w w' := by
  have HR0 := Aside0.mk hr0
  have HC0 := Aside0.mk hc0
  have H := Aside0.mk h
  clear hr0 hc0 h
  go_enter Try.func12, Try.ntmps12
  go_wp2_with fail
  refine (crossbuckref13_one.calls _ _ l0 a1 15 _ (Kd.C_alloc HR0.out _) HC0.out H.out).mono ?_
  rintro e w1 ⟨rfl, ⟨nd, rfl⟩⟩
  go_wp2
  exact bodyPost_ret (v := .agg #[.bool false, .bool false, .bool false, .bool false]) (by simp [results, Try.results12, go_sem]) rfl ⟨rfl, by (with_reducible repeat (first | exact Below.refl _ _ | refine below_set0 ?_ _ _ | refine below_alloc ?_ _ | refine pw_below_drewN ?_ _))⟩
theorem crossbuckref13_Barrier.calls (k : Nat) (A0 : Option Addr) (c0 : Nat) (l0 : List Int) (a1 : Bool) (r1 : Bool) (r2 : Bool) (r3 : Bool) (r4 : Bool) (w : World) (hr0 : Kd.C (Kd.int .u8) w A0 l0.length l0) (hc0 : l0.length ≤ c0) (h : crossbuckref13_Barrier.f k l0 a1 = some (r1, r2, r3, r4)) :
    Calls Try.prog 12 #[.slice A0 l0.length c0, .bool a1] w fun e w' => e = .returned (.agg #[.bool r1, .bool r2, .bool r3, .bool r4]) ∧ Below w.heap.size w w' := by
  obtain ⟨n, h1, h2⟩ := Option.bind_eq_some_iff.mp h
  have h2 := Option.some.inj h2
  by_cases hn : n < 0
  · have e : refBar n = (false, false, false, false) := by unfold refBar; repeat rw [if_neg (by omega)]
    rw [e] at h2; simp only [Prod.mk.injEq] at h2; obtain ⟨rfl, rfl, rfl, rfl⟩ := h2
    exact refBar_neg A0 c0 l0 a1 n hn w hr0 hc0 h1
  by_cases hb : 15 < n
  · have e : refBar n = (false, false, false, false) := by unfold refBar; repeat rw [if_neg (by omega)]
    rw [e] at h2; simp only [Prod.mk.injEq] at h2; obtain ⟨rfl, rfl, rfl, rfl⟩ := h2
    exact refBar_big A0 c0 l0 a1 n hb (by omega) w hr0 hc0 h1
  obtain rfl | rfl | rfl | rfl | rfl | rfl | rfl | rfl | rfl | rfl | rfl | rfl | rfl | rfl | rfl | rfl : n = 0 ∨ n = 1 ∨ n = 2 ∨ n = 3 ∨ n = 4 ∨ n = 5 ∨ n = 6 ∨ n = 7 ∨ n = 8 ∨ n = 9 ∨ n = 10 ∨ n = 11 ∨ n = 12 ∨ n = 13 ∨ n = 14 ∨ n = 15 := by omega
  · obtain ⟨rfl, rfl, rfl, rfl⟩ : r1 = false ∧ r2 = false ∧ r3 = false ∧ r4 = false := by simpa [refBar, eq_comm] using h2
    exact refBar_0 A0 c0 l0 a1 w hr0 hc0 h1
  · obtain ⟨rfl, rfl, rfl, rfl⟩ : r1 = true ∧ r2 = false ∧ r3 = false ∧ r4 = false := by simpa [refBar, eq_comm] using h2
    exact refBar_1 A0 c0 l0 a1 w hr0 hc0 h1
  · obtain ⟨rfl, rfl, rfl, rfl⟩ : r1 = false ∧ r2 = true ∧ r3 = false ∧ r4 = false := by simpa [refBar, eq_comm] using h2
    exact refBar_2 A0 c0 l0 a1 w hr0 hc0 h1
  · obtain ⟨rfl, rfl, rfl, rfl⟩ : r1 = false ∧ r2 = false ∧ r3 = false ∧ r4 = false := by simpa [refBar, eq_comm] using h2
    exact refBar_3 A0 c0 l0 a1 w hr0 hc0 h1
  · obtain ⟨rfl, rfl, rfl, rfl⟩ : r1 = false ∧ r2 = false ∧ r3 = true ∧ r4 = false := by simpa [refBar, eq_comm] using h2
    exact refBar_4 A0 c0 l0 a1 w hr0 hc0 h1
  · obtain ⟨rfl, rfl, rfl, rfl⟩ : r1 = true ∧ r2 = false ∧ r3 = true ∧ r4 = false := by simpa [refBar, eq_comm] using h2
    exact refBar_5 A0 c0 l0 a1 w hr0 hc0 h1
  · obtain ⟨rfl, rfl, rfl, rfl⟩ : r1 = false ∧ r2 = true ∧ r3 = true ∧ r4 = false := by simpa [refBar, eq_comm] using h2
    exact refBar_6 A0 c0 l0 a1 w hr0 hc0 h1
  · obtain ⟨rfl, rfl, rfl, rfl⟩ : r1 = false ∧ r2 = false ∧ r3 = true ∧ r4 = false := by simpa [refBar, eq_comm] using h2
    exact refBar_7 A0 c0 l0 a1 w hr0 hc0 h1
  · obtain ⟨rfl, rfl, rfl, rfl⟩ : r1 = false ∧ r2 = false ∧ r3 = false ∧ r4 = true := by simpa [refBar, eq_comm] using h2
    exact refBar_8 A0 c0 l0 a1 w hr0 hc0 h1
  · obtain ⟨rfl, rfl, rfl, rfl⟩ : r1 = true ∧ r2 = false ∧ r3 = false ∧ r4 = true := by simpa [refBar, eq_comm] using h2
    exact refBar_9 A0 c0 l0 a1 w hr0 hc0 h1
  · obtain ⟨rfl, rfl, rfl, rfl⟩ : r1 = false ∧ r2 = true ∧ r3 = false ∧ r4 = true := by simpa [refBar, eq_comm] using h2
    exact refBar_10 A0 c0 l0 a1 w hr0 hc0 h1
  · obtain ⟨rfl, rfl, rfl, rfl⟩ : r1 = false ∧ r2 = false ∧ r3 = false ∧ r4 = true := by simpa [refBar, eq_comm] using h2
    exact refBar_11 A0 c0 l0 a1 w hr0 hc0 h1
  · obtain ⟨rfl, rfl, rfl, rfl⟩ : r1 = false ∧ r2 = false ∧ r3 = false ∧ r4 = false := by simpa [refBar, eq_comm] using h2
    exact refBar_12 A0 c0 l0 a1 w hr0 hc0 h1
  · obtain ⟨rfl, rfl, rfl, rfl⟩ : r1 = true ∧ r2 = false ∧ r3 = false ∧ r4 = false := by simpa [refBar, eq_comm] using h2
    exact refBar_13 A0 c0 l0 a1 w hr0 hc0 h1
  · obtain ⟨rfl, rfl, rfl, rfl⟩ : r1 = false ∧ r2 = true ∧ r3 = false ∧ r4 = false := by simpa [refBar, eq_comm] using h2
    exact refBar_14 A0 c0 l0 a1 w hr0 hc0 h1
  · obtain ⟨rfl, rfl, rfl, rfl⟩ : r1 = false ∧ r2 = false ∧ r3 = false ∧ r4 = false := by simpa [refBar, eq_comm] using h2
    exact refBar_15 A0 c0 l0 a1 w hr0 hc0 h1
end Go.Proofs.Ythefjcpddiggkaa.PS
