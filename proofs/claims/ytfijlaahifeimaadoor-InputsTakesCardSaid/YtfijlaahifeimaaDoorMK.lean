/- The reference's Barrier: what it returns of each byte. -/
import Derived.Test.YtfijlaahifeimaaDoorPSx7
import Derived.Test.YtfijlaahifeimaaDoorPSx3
import Derived.Test.YtfijlaahifeimaaDoorPSx4
import Derived.Test.YtfijlaahifeimaaDoorPSx12
import Derived.Test.YtfijlaahifeimaaDoorMD
import Derived.Deep.RegionHeld3
namespace Go.Proofs.YtfijlaahifeimaaDoor.PS
open Go.RowKit Go.Proofs.YtfijlaahifeimaaDoorW.PrintWords Go.Proofs.YtfijlaahifeimaaDoorW.PrintLast Go.Proofs.YtfijlaahifeimaaDoorW.PrintMore
attribute [local go_sem] max2_int min2_int max_two min_two max_three min_three max_four min_four
set_option linter.unusedVariables false
set_option linter.unusedSimpArgs false

/-! ### crossbuckref13_Barrier: function 12, by hand: a walk for each byte -/
theorem below_set0 {w W : World} (h : Below w.heap.size w W) (i : Nat) (u : Value) : Below w.heap.size w (W.setCell ⟨w.heap.size, i, none⟩ u) := h.setCell (Nat.le_refl _) u
def refBar (n : Int) : Bool × Bool × Bool × Bool :=
  if n = 0 then (false, false, false, false) else if n = 1 then (true, false, false, false) else if n = 2 then (false, true, false, false) else if n = 3 then (false, false, false, false) else if n = 4 then (false, false, true, false) else if n = 5 then (true, false, true, false) else if n = 6 then (false, true, true, false) else if n = 7 then (false, false, true, false) else if n = 8 then (false, false, false, true) else if n = 9 then (true, false, false, true) else if n = 10 then (false, true, false, true) else if n = 11 then (false, false, false, true) else if n = 12 then (false, false, false, false) else if n = 13 then (true, false, false, false) else if n = 14 then (false, true, false, false) else if n = 15 then (false, false, false, false) else (false, false, false, false)
def crossbuckref13_Barrier.f (k : Nat) (l0 : List Int) (a1 : Bool) : Option (Bool × Bool × Bool × Bool) := (crossbuckref13_one.f l0 a1).bind fun n => some (refBar n)
theorem crossbuckref13_Barrier.mono : ∀ a0 a1 k, LeO (crossbuckref13_Barrier.f k a0 a1) (crossbuckref13_Barrier.f (k + 1) a0 a1) := fun _ _ _ => fun _ h => h
set_option maxHeartbeats 2000000 in
theorem refBar_neg (A0 : Option Addr) (c0 : Nat) (l0 : List Int) (a1 : Bool) (n : Int) (hn : n < 0) (w : World) (hr0 : Kd.C (Kd.int .u8) w A0 l0.length l0) (hc0 : l0.length ≤ c0) (h : crossbuckref13_one.f l0 a1 = some n) :
    Calls Tryd.prog 38 #[.slice A0 l0.length c0, .bool a1] w fun e w' => e = .returned (.agg #[.bool false, .bool false, .bool false, .bool false]) ∧ Below w.heap.size w w' := by
  have HR0 := Aside0.mk hr0
  have HC0 := Aside0.mk hc0
  have H := Aside0.mk h
  clear hr0 hc0 h
  have b1 : decide (n < 0) = true := decide_eq_true hn
  go_enter Tryd.func38, Tryd.ntmps38
  go_wp2_with fail
  refine (crossbuckref13_one.calls _ _ l0 a1 n _ (Kd.C_alloc HR0.out _) HC0.out H.out).mono ?_
  rintro e w1 ⟨rfl, ⟨nd, rfl⟩⟩
  go_wp2
  exact bodyPost_ret (v := .agg #[.bool false, .bool false, .bool false, .bool false]) (by simp [results, Tryd.results38, go_sem]) rfl ⟨rfl, by (with_reducible repeat (first | exact Below.refl _ _ | refine below_set0 ?_ _ _ | refine below_alloc ?_ _ | refine pw_below_drewN ?_ _))⟩
set_option maxHeartbeats 2000000 in
theorem refBar_big (A0 : Option Addr) (c0 : Nat) (l0 : List Int) (a1 : Bool) (n : Int) (hn : 15 < n) (hp : 0 ≤ n) (w : World) (hr0 : Kd.C (Kd.int .u8) w A0 l0.length l0) (hc0 : l0.length ≤ c0) (h : crossbuckref13_one.f l0 a1 = some n) :
    Calls Tryd.prog 38 #[.slice A0 l0.length c0, .bool a1] w fun e w' => e = .returned (.agg #[.bool false, .bool false, .bool false, .bool false]) ∧ Below w.heap.size w w' := by
  have HR0 := Aside0.mk hr0
  have HC0 := Aside0.mk hc0
  have H := Aside0.mk h
  clear hr0 hc0 h
  have b1 : decide (n < 0) = false := decide_eq_false (by omega)
  have b2 : decide (15 < n) = true := decide_eq_true hn
  go_enter Tryd.func38, Tryd.ntmps38
  go_wp2_with fail
  refine (crossbuckref13_one.calls _ _ l0 a1 n _ (Kd.C_alloc HR0.out _) HC0.out H.out).mono ?_
  rintro e w1 ⟨rfl, ⟨nd, rfl⟩⟩
  go_wp2
  exact bodyPost_ret (v := .agg #[.bool false, .bool false, .bool false, .bool false]) (by simp [results, Tryd.results38, go_sem]) rfl ⟨rfl, by (with_reducible repeat (first | exact Below.refl _ _ | refine below_set0 ?_ _ _ | refine below_alloc ?_ _ | refine pw_below_drewN ?_ _))⟩
set_option maxHeartbeats 2000000 in
theorem refBar_0 (A0 : Option Addr) (c0 : Nat) (l0 : List Int) (a1 : Bool) (w : World) (hr0 : Kd.C (Kd.int .u8) w A0 l0.length l0) (hc0 : l0.length ≤ c0) (h : crossbuckref13_one.f l0 a1 = some 0) :
    Calls Tryd.prog 38 #[.slice A0 l0.length c0, .bool a1] w fun e w' => e = .returned (.agg #[.bool false, .bool false, .bool false, .bool false]) ∧ Below w.heap.size w w' := by
  have HR0 := Aside0.mk hr0
  have HC0 := Aside0.mk hc0
  have H := Aside0.mk h
  clear hr0 hc0 h
  go_enter Tryd.func38, Tryd.ntmps38
  go_wp2_with fail
  refine (crossbuckref13_one.calls _ _ l0 a1 0 _ (Kd.C_alloc HR0.out _) HC0.out H.out).mono ?_
  rintro e w1 ⟨rfl, ⟨nd, rfl⟩⟩
  go_wp2
  exact bodyPost_ret (v := .agg #[.bool false, .bool false, .bool false, .bool false]) (by simp [results, Tryd.results38, go_sem]) rfl ⟨rfl, by (with_reducible repeat (first | exact Below.refl _ _ | refine below_set0 ?_ _ _ | refine below_alloc ?_ _ | refine pw_below_drewN ?_ _))⟩
set_option maxHeartbeats 2000000 in
theorem refBar_1 (A0 : Option Addr) (c0 : Nat) (l0 : List Int) (a1 : Bool) (w : World) (hr0 : Kd.C (Kd.int .u8) w A0 l0.length l0) (hc0 : l0.length ≤ c0) (h : crossbuckref13_one.f l0 a1 = some 1) :
    Calls Tryd.prog 38 #[.slice A0 l0.length c0, .bool a1] w fun e w' => e = .returned (.agg #[.bool true, .bool false, .bool false, .bool false]) ∧ Below w.heap.size w w' := by
  have HR0 := Aside0.mk hr0
  have HC0 := Aside0.mk hc0
  have H := Aside0.mk h
  clear hr0 hc0 h
  go_enter Tryd.func38, Tryd.ntmps38
  go_wp2_with fail
  refine (crossbuckref13_one.calls _ _ l0 a1 1 _ (Kd.C_alloc HR0.out _) HC0.out H.out).mono ?_
  rintro e w1 ⟨rfl, ⟨nd, rfl⟩⟩
  go_wp2
  exact bodyPost_ret (v := .agg #[.bool true, .bool false, .bool false, .bool false]) (by simp [results, Tryd.results38, go_sem]) rfl ⟨rfl, by (with_reducible repeat (first | exact Below.refl _ _ | refine below_set0 ?_ _ _ | refine below_alloc ?_ _ | refine pw_below_drewN ?_ _))⟩
set_option maxHeartbeats 2000000 in
theorem refBar_2 (A0 : Option Addr) (c0 : Nat) (l0 : List Int) (a1 : Bool) (w : World) (hr0 : Kd.C (Kd.int .u8) w A0 l0.length l0) (hc0 : l0.length ≤ c0) (h : crossbuckref13_one.f l0 a1 = some 2) :
    Calls Tryd.prog 38 #[.slice A0 l0.length c0, .bool a1] w fun e w' => e = .returned (.agg #[.bool false, .bool true, .bool false, .bool false]) ∧ Below w.heap.size w w' := by
  have HR0 := Aside0.mk hr0
  have HC0 := Aside0.mk hc0
  have H := Aside0.mk h
  clear hr0 hc0 h
  go_enter Tryd.func38, Tryd.ntmps38
  go_wp2_with fail
  refine (crossbuckref13_one.calls _ _ l0 a1 2 _ (Kd.C_alloc HR0.out _) HC0.out H.out).mono ?_
  rintro e w1 ⟨rfl, ⟨nd, rfl⟩⟩
  go_wp2
  exact bodyPost_ret (v := .agg #[.bool false, .bool true, .bool false, .bool false]) (by simp [results, Tryd.results38, go_sem]) rfl ⟨rfl, by (with_reducible repeat (first | exact Below.refl _ _ | refine below_set0 ?_ _ _ | refine below_alloc ?_ _ | refine pw_below_drewN ?_ _))⟩
set_option maxHeartbeats 2000000 in
theorem refBar_3 (A0 : Option Addr) (c0 : Nat) (l0 : List Int) (a1 : Bool) (w : World) (hr0 : Kd.C (Kd.int .u8) w A0 l0.length l0) (hc0 : l0.length ≤ c0) (h : crossbuckref13_one.f l0 a1 = some 3) :
    Calls Tryd.prog 38 #[.slice A0 l0.length c0, .bool a1] w fun e w' => e = .returned (.agg #[.bool false, .bool false, .bool false, .bool false]) ∧ Below w.heap.size w w' := by
  have HR0 := Aside0.mk hr0
  have HC0 := Aside0.mk hc0
  have H := Aside0.mk h
  clear hr0 hc0 h
  go_enter Tryd.func38, Tryd.ntmps38
  go_wp2_with fail
  refine (crossbuckref13_one.calls _ _ l0 a1 3 _ (Kd.C_alloc HR0.out _) HC0.out H.out).mono ?_
  rintro e w1 ⟨rfl, ⟨nd, rfl⟩⟩
  go_wp2
  exact bodyPost_ret (v := .agg #[.bool false, .bool false, .bool false, .bool false]) (by simp [results, Tryd.results38, go_sem]) rfl ⟨rfl, by (with_reducible repeat (first | exact Below.refl _ _ | refine below_set0 ?_ _ _ | refine below_alloc ?_ _ | refine pw_below_drewN ?_ _))⟩
set_option maxHeartbeats 2000000 in
theorem refBar_4 (A0 : Option Addr) (c0 : Nat) (l0 : List Int) (a1 : Bool) (w : World) (hr0 : Kd.C (Kd.int .u8) w A0 l0.length l0) (hc0 : l0.length ≤ c0) (h : crossbuckref13_one.f l0 a1 = some 4) :
    Calls Tryd.prog 38 #[.slice A0 l0.length c0, .bool a1] w fun e w' => e = .returned (.agg #[.bool false, .bool false, .bool true, .bool false]) ∧ Below w.heap.size w w' := by
  have HR0 := Aside0.mk hr0
  have HC0 := Aside0.mk hc0
  have H := Aside0.mk h
  clear hr0 hc0 h
  go_enter Tryd.func38, Tryd.ntmps38
  go_wp2_with fail
  refine (crossbuckref13_one.calls _ _ l0 a1 4 _ (Kd.C_alloc HR0.out _) HC0.out H.out).mono ?_
  rintro e w1 ⟨rfl, ⟨nd, rfl⟩⟩
  go_wp2
  exact bodyPost_ret (v := .agg #[.bool false, .bool false, .bool true, .bool false]) (by simp [results, Tryd.results38, go_sem]) rfl ⟨rfl, by (with_reducible repeat (first | exact Below.refl _ _ | refine below_set0 ?_ _ _ | refine below_alloc ?_ _ | refine pw_below_drewN ?_ _))⟩
set_option maxHeartbeats 2000000 in
theorem refBar_5 (A0 : Option Addr) (c0 : Nat) (l0 : List Int) (a1 : Bool) (w : World) (hr0 : Kd.C (Kd.int .u8) w A0 l0.length l0) (hc0 : l0.length ≤ c0) (h : crossbuckref13_one.f l0 a1 = some 5) :
    Calls Tryd.prog 38 #[.slice A0 l0.length c0, .bool a1] w fun e w' => e = .returned (.agg #[.bool true, .bool false, .bool true, .bool false]) ∧ Below w.heap.size w w' := by
  have HR0 := Aside0.mk hr0
  have HC0 := Aside0.mk hc0
  have H := Aside0.mk h
  clear hr0 hc0 h
  go_enter Tryd.func38, Tryd.ntmps38
  go_wp2_with fail
  refine (crossbuckref13_one.calls _ _ l0 a1 5 _ (Kd.C_alloc HR0.out _) HC0.out H.out).mono ?_
  rintro e w1 ⟨rfl, ⟨nd, rfl⟩⟩
  go_wp2
  exact bodyPost_ret (v := .agg #[.bool true, .bool false, .bool true, .bool false]) (by simp [results, Tryd.results38, go_sem]) rfl ⟨rfl, by (with_reducible repeat (first | exact Below.refl _ _ | refine below_set0 ?_ _ _ | refine below_alloc ?_ _ | refine pw_below_drewN ?_ _))⟩
set_option maxHeartbeats 2000000 in
theorem refBar_6 (A0 : Option Addr) (c0 : Nat) (l0 : List Int) (a1 : Bool) (w : World) (hr0 : Kd.C (Kd.int .u8) w A0 l0.length l0) (hc0 : l0.length ≤ c0) (h : crossbuckref13_one.f l0 a1 = some 6) :
    Calls Tryd.prog 38 #[.slice A0 l0.length c0, .bool a1] w fun e w' => e = .returned (.agg #[.bool false, .bool true, .bool true, .bool false]) ∧ Below w.heap.size w w' := by
  have HR0 := Aside0.mk hr0
  have HC0 := Aside0.mk hc0
  have H := Aside0.mk h
  clear hr0 hc0 h
  go_enter Tryd.func38, Tryd.ntmps38
  go_wp2_with fail
  refine (crossbuckref13_one.calls _ _ l0 a1 6 _ (Kd.C_alloc HR0.out _) HC0.out H.out).mono ?_
  rintro e w1 ⟨rfl, ⟨nd, rfl⟩⟩
  go_wp2
  exact bodyPost_ret (v := .agg #[.bool false, .bool true, .bool true, .bool false]) (by simp [results, Tryd.results38, go_sem]) rfl ⟨rfl, by (with_reducible repeat (first | exact Below.refl _ _ | refine below_set0 ?_ _ _ | refine below_alloc ?_ _ | refine pw_below_drewN ?_ _))⟩
set_option maxHeartbeats 2000000 in
theorem refBar_7 (A0 : Option Addr) (c0 : Nat) (l0 : List Int) (a1 : Bool) (w : World) (hr0 : Kd.C (Kd.int .u8) w A0 l0.length l0) (hc0 : l0.length ≤ c0) (h : crossbuckref13_one.f l0 a1 = some 7) :
    Calls Tryd.prog 38 #[.slice A0 l0.length c0, .bool a1] w fun e w' => e = .returned (.agg #[.bool false, .bool false, .bool true, .bool false]) ∧ Below w.heap.size w w' := by
  have HR0 := Aside0.mk hr0
  have HC0 := Aside0.mk hc0
  have H := Aside0.mk h
  clear hr0 hc0 h
  go_enter Tryd.func38, Tryd.ntmps38
  go_wp2_with fail
  refine (crossbuckref13_one.calls _ _ l0 a1 7 _ (Kd.C_alloc HR0.out _) HC0.out H.out).mono ?_
  rintro e w1 ⟨rfl, ⟨nd, rfl⟩⟩
  go_wp2
  exact bodyPost_ret (v := .agg #[.bool false, .bool false, .bool true, .bool false]) (by simp [results, Tryd.results38, go_sem]) rfl ⟨rfl, by (with_reducible repeat (first | exact Below.refl _ _ | refine below_set0 ?_ _ _ | refine below_alloc ?_ _ | refine pw_below_drewN ?_ _))⟩
set_option maxHeartbeats 2000000 in
theorem refBar_8 (A0 : Option Addr) (c0 : Nat) (l0 : List Int) (a1 : Bool) (w : World) (hr0 : Kd.C (Kd.int .u8) w A0 l0.length l0) (hc0 : l0.length ≤ c0) (h : crossbuckref13_one.f l0 a1 = some 8) :
    Calls Tryd.prog 38 #[.slice A0 l0.length c0, .bool a1] w fun e w' => e = .returned (.agg #[.bool false, .bool false, .bool false, .bool true]) ∧ Below w.heap.size w w' := by
  have HR0 := Aside0.mk hr0
  have HC0 := Aside0.mk hc0
  have H := Aside0.mk h
  clear hr0 hc0 h
  go_enter Tryd.func38, Tryd.ntmps38
  go_wp2_with fail
  refine (crossbuckref13_one.calls _ _ l0 a1 8 _ (Kd.C_alloc HR0.out _) HC0.out H.out).mono ?_
  rintro e w1 ⟨rfl, ⟨nd, rfl⟩⟩
  go_wp2
  exact bodyPost_ret (v := .agg #[.bool false, .bool false, .bool false, .bool true]) (by simp [results, Tryd.results38, go_sem]) rfl ⟨rfl, by (with_reducible repeat (first | exact Below.refl _ _ | refine below_set0 ?_ _ _ | refine below_alloc ?_ _ | refine pw_below_drewN ?_ _))⟩
set_option maxHeartbeats 2000000 in
theorem refBar_9 (A0 : Option Addr) (c0 : Nat) (l0 : List Int) (a1 : Bool) (w : World) (hr0 : Kd.C (Kd.int .u8) w A0 l0.length l0) (hc0 : l0.length ≤ c0) (h : crossbuckref13_one.f l0 a1 = some 9) :
    Calls Tryd.prog 38 #[.slice A0 l0.length c0, .bool a1] w fun e w' => e = .returned (.agg #[.bool true, .bool false, .bool false, .bool true]) ∧ Below w.heap.size w w' := by
  have HR0 := Aside0.mk hr0
  have HC0 := Aside0.mk hc0
  have H := Aside0.mk h
  clear hr0 hc0 h
  go_enter Tryd.func38, Tryd.ntmps38
  go_wp2_with fail
  refine (crossbuckref13_one.calls _ _ l0 a1 9 _ (Kd.C_alloc HR0.out _) HC0.out H.out).mono ?_
  rintro e w1 ⟨rfl, ⟨nd, rfl⟩⟩
  go_wp2
  exact bodyPost_ret (v := .agg #[.bool true, .bool false, .bool false, .bool true]) (by simp [results, Tryd.results38, go_sem]) rfl ⟨rfl, by (with_reducible repeat (first | exact Below.refl _ _ | refine below_set0 ?_ _ _ | refine below_alloc ?_ _ | refine pw_below_drewN ?_ _))⟩
set_option maxHeartbeats 2000000 in
theorem refBar_10 (A0 : Option Addr) (c0 : Nat) (l0 : List Int) (a1 : Bool) (w : World) (hr0 : Kd.C (Kd.int .u8) w A0 l0.length l0) (hc0 : l0.length ≤ c0) (h : crossbuckref13_one.f l0 a1 = some 10) :
    Calls Tryd.prog 38 #[.slice A0 l0.length c0, .bool a1] w fun e w' => e = .returned (.agg #[.bool false, .bool true, .bool false, .bool true]) ∧ Below w.heap.size w w' := by
  have HR0 := Aside0.mk hr0
  have HC0 := Aside0.mk hc0
  have H := Aside0.mk h
  clear hr0 hc0 h
  go_enter Tryd.func38, Tryd.ntmps38
  go_wp2_with fail
  refine (crossbuckref13_one.calls _ _ l0 a1 10 _ (Kd.C_alloc HR0.out _) HC0.out H.out).mono ?_
  rintro e w1 ⟨rfl, ⟨nd, rfl⟩⟩
  go_wp2
  exact bodyPost_ret (v := .agg #[.bool false, .bool true, .bool false, .bool true]) (by simp [results, Tryd.results38, go_sem]) rfl ⟨rfl, by (with_reducible repeat (first | exact Below.refl _ _ | refine below_set0 ?_ _ _ | refine below_alloc ?_ _ | refine pw_below_drewN ?_ _))⟩
set_option maxHeartbeats 2000000 in
theorem refBar_11 (A0 : Option Addr) (c0 : Nat) (l0 : List Int) (a1 : Bool) (w : World) (hr0 : Kd.C (Kd.int .u8) w A0 l0.length l0) (hc0 : l0.length ≤ c0) (h : crossbuckref13_one.f l0 a1 = some 11) :
    Calls Tryd.prog 38 #[.slice A0 l0.length c0, .bool a1] w fun e w' => e = .returned (.agg #[.bool false, .bool false, .bool false, .bool true]) ∧ Below w.heap.size w w' := by
  have HR0 := Aside0.mk hr0
  have HC0 := Aside0.mk hc0
  have H := Aside0.mk h
  clear hr0 hc0 h
  go_enter Tryd.func38, Tryd.ntmps38
  go_wp2_with fail
  refine (crossbuckref13_one.calls _ _ l0 a1 11 _ (Kd.C_alloc HR0.out _) HC0.out H.out).mono ?_
  rintro e w1 ⟨rfl, ⟨nd, rfl⟩⟩
  go_wp2
  exact bodyPost_ret (v := .agg #[.bool false, .bool false, .bool false, .bool true]) (by simp [results, Tryd.results38, go_sem]) rfl ⟨rfl, by (with_reducible repeat (first | exact Below.refl _ _ | refine below_set0 ?_ _ _ | refine below_alloc ?_ _ | refine pw_below_drewN ?_ _))⟩
set_option maxHeartbeats 2000000 in
theorem refBar_12 (A0 : Option Addr) (c0 : Nat) (l0 : List Int) (a1 : Bool) (w : World) (hr0 : Kd.C (Kd.int .u8) w A0 l0.length l0) (hc0 : l0.length ≤ c0) (h : crossbuckref13_one.f l0 a1 = some 12) :
    Calls Tryd.prog 38 #[.slice A0 l0.length c0, .bool a1] w fun e w' => e = .returned (.agg #[.bool false, .bool false, .bool false, .bool false]) ∧ Below w.heap.size w w' := by
  have HR0 := Aside0.mk hr0
  have HC0 := Aside0.mk hc0
  have H := Aside0.mk h
  clear hr0 hc0 h
  go_enter Tryd.func38, Tryd.ntmps38
  go_wp2_with fail
  refine (crossbuckref13_one.calls _ _ l0 a1 12 _ (Kd.C_alloc HR0.out _) HC0.out H.out).mono ?_
  rintro e w1 ⟨rfl, ⟨nd, rfl⟩⟩
  go_wp2
  exact bodyPost_ret (v := .agg #[.bool false, .bool false, .bool false, .bool false]) (by simp [results, Tryd.results38, go_sem]) rfl ⟨rfl, by (with_reducible repeat (first | exact Below.refl _ _ | refine below_set0 ?_ _ _ | refine below_alloc ?_ _ | refine pw_below_drewN ?_ _))⟩
set_option maxHeartbeats 2000000 in
theorem refBar_13 (A0 : Option Addr) (c0 : Nat) (l0 : List Int) (a1 : Bool) (w : World) (hr0 : Kd.C (Kd.int .u8) w A0 l0.length l0) (hc0 : l0.length ≤ c0) (h : crossbuckref13_one.f l0 a1 = some 13) :
    Calls Tryd.prog 38 #[.slice A0 l0.length c0, .bool a1] w fun e w' => e = .returned (.agg #[.bool true, .bool false, .bool false, .bool false]) ∧ Below w.heap.size w w' := by
  have HR0 := Aside0.mk hr0
  have HC0 := Aside0.mk hc0
  have H := Aside0.mk h
  clear hr0 hc0 h
  go_enter Tryd.func38, Tryd.ntmps38
  go_wp2_with fail
  refine (crossbuckref13_one.calls _ _ l0 a1 13 _ (Kd.C_alloc HR0.out _) HC0.out H.out).mono ?_
  rintro e w1 ⟨rfl, ⟨nd, rfl⟩⟩
  go_wp2
  exact bodyPost_ret (v := .agg #[.bool true, .bool false, .bool false, .bool false]) (by simp [results, Tryd.results38, go_sem]) rfl ⟨rfl, by (with_reducible repeat (first | exact Below.refl _ _ | refine below_set0 ?_ _ _ | refine below_alloc ?_ _ | refine pw_below_drewN ?_ _))⟩
set_option maxHeartbeats 2000000 in
theorem refBar_14 (A0 : Option Addr) (c0 : Nat) (l0 : List Int) (a1 : Bool) (w : World) (hr0 : Kd.C (Kd.int .u8) w A0 l0.length l0) (hc0 : l0.length ≤ c0) (h : crossbuckref13_one.f l0 a1 = some 14) :
    Calls Tryd.prog 38 #[.slice A0 l0.length c0, .bool a1] w fun e w' => e = .returned (.agg #[.bool false, .bool true, .bool false, .bool false]) ∧ Below w.heap.size w w' := by
  have HR0 := Aside0.mk hr0
  have HC0 := Aside0.mk hc0
  have H := Aside0.mk h
  clear hr0 hc0 h
  go_enter Tryd.func38, Tryd.ntmps38
  go_wp2_with fail
  refine (crossbuckref13_one.calls _ _ l0 a1 14 _ (Kd.C_alloc HR0.out _) HC0.out H.out).mono ?_
  rintro e w1 ⟨rfl, ⟨nd, rfl⟩⟩
  go_wp2
  exact bodyPost_ret (v := .agg #[.bool false, .bool true, .bool false, .bool false]) (by simp [results, Tryd.results38, go_sem]) rfl ⟨rfl, by (with_reducible repeat (first | exact Below.refl _ _ | refine below_set0 ?_ _ _ | refine below_alloc ?_ _ | refine pw_below_drewN ?_ _))⟩
set_option maxHeartbeats 2000000 in
theorem refBar_15 (A0 : Option Addr) (c0 : Nat) (l0 : List Int) (a1 : Bool) (w : World) (hr0 : Kd.C (Kd.int .u8) w A0 l0.length l0) (hc0 : l0.length ≤ c0) (h : crossbuckref13_one.f l0 a1 = some 15) :
    Calls Tryd.prog 38 #[.slice A0 l0.length c0, .bool a1] w fun e w' => e = .returned (.agg #[.bool false, .bool false, .bool false, .bool false]) ∧ Below w.heap.size w w' := by
  have HR0 := Aside0.mk hr0
  have HC0 := Aside0.mk hc0
  have H := Aside0.mk h
  clear hr0 hc0 h
  go_enter Tryd.func38, Tryd.ntmps38
  go_wp2_with fail
  refine (crossbuckref13_one.calls _ _ l0 a1 15 _ (Kd.C_alloc HR0.out _) HC0.out H.out).mono ?_
  rintro e w1 ⟨rfl, ⟨nd, rfl⟩⟩
  go_wp2
  exact bodyPost_ret (v := .agg #[.bool false, .bool false, .bool false, .bool false]) (by simp [results, Tryd.results38, go_sem]) rfl ⟨rfl, by (with_reducible repeat (first | exact Below.refl _ _ | refine below_set0 ?_ _ _ | refine below_alloc ?_ _ | refine pw_below_drewN ?_ _))⟩
theorem crossbuckref13_Barrier.calls (k : Nat) (A0 : Option Addr) (c0 : Nat) (l0 : List Int) (a1 : Bool) (r1 : Bool) (r2 : Bool) (r3 : Bool) (r4 : Bool) (w : World) (hr0 : Kd.C (Kd.int .u8) w A0 l0.length l0) (hc0 : l0.length ≤ c0) (h : crossbuckref13_Barrier.f k l0 a1 = some (r1, r2, r3, r4)) :
    Calls Tryd.prog 38 #[.slice A0 l0.length c0, .bool a1] w fun e w' => e = .returned (.agg #[.bool r1, .bool r2, .bool r3, .bool r4]) ∧ Below w.heap.size w w' := by
  obtain ⟨n, h1, h2⟩ := Option.bind_eq_some_iff.mp h
  have h2 := Option.some.inj h2
  by_cases hn : n < 0
  · have e : refBar n = (false, false, false, false) := by unfold refBar; repeat rw [if_neg (by omega)]
    rw [e] at h2; simp only [Prod.mk.injEq] at h2; obtain ⟨rfl, rfl, rfl, rfl⟩ := h2
    exact refBar_neg A0 c0 l0 a1 n hn w hr0 hc0 h1
  by_cases hb : 15 < n
  · have e : refBar n = (false, false, false, false) := by unfold refBar; repeat rw [if_neg (by omega)]
    rw [e] at h2; simp only [Prod.mk.injEq] at h2; obtain ⟨rfl, rfl, rfl, rfl⟩ := h2
    exact refBar_big A0 c0 l0 a1 n hb (by omega) w hr0 hc0 h1
  obtain rfl | rfl | rfl | rfl | rfl | rfl | rfl | rfl | rfl | rfl | rfl | rfl | rfl | rfl | rfl | rfl : n = 0 ∨ n = 1 ∨ n = 2 ∨ n = 3 ∨ n = 4 ∨ n = 5 ∨ n = 6 ∨ n = 7 ∨ n = 8 ∨ n = 9 ∨ n = 10 ∨ n = 11 ∨ n = 12 ∨ n = 13 ∨ n = 14 ∨ n = 15 := by omega
  · obtain ⟨rfl, rfl, rfl, rfl⟩ : r1 = false ∧ r2 = false ∧ r3 = false ∧ r4 = false := by simpa [refBar, eq_comm] using h2
    exact refBar_0 A0 c0 l0 a1 w hr0 hc0 h1
  · obtain ⟨rfl, rfl, rfl, rfl⟩ : r1 = true ∧ r2 = false ∧ r3 = false ∧ r4 = false := by simpa [refBar, eq_comm] using h2
    exact refBar_1 A0 c0 l0 a1 w hr0 hc0 h1
  · obtain ⟨rfl, rfl, rfl, rfl⟩ : r1 = false ∧ r2 = true ∧ r3 = false ∧ r4 = false := by simpa [refBar, eq_comm] using h2
    exact refBar_2 A0 c0 l0 a1 w hr0 hc0 h1
  · obtain ⟨rfl, rfl, rfl, rfl⟩ : r1 = false ∧ r2 = false ∧ r3 = false ∧ r4 = false := by simpa [refBar, eq_comm] using h2
    exact refBar_3 A0 c0 l0 a1 w hr0 hc0 h1
  · obtain ⟨rfl, rfl, rfl, rfl⟩ : r1 = false ∧ r2 = false ∧ r3 = true ∧ r4 = false := by simpa [refBar, eq_comm] using h2
    exact refBar_4 A0 c0 l0 a1 w hr0 hc0 h1
  · obtain ⟨rfl, rfl, rfl, rfl⟩ : r1 = true ∧ r2 = false ∧ r3 = true ∧ r4 = false := by simpa [refBar, eq_comm] using h2
    exact refBar_5 A0 c0 l0 a1 w hr0 hc0 h1
  · obtain ⟨rfl, rfl, rfl, rfl⟩ : r1 = false ∧ r2 = true ∧ r3 = true ∧ r4 = false := by simpa [refBar, eq_comm] using h2
    exact refBar_6 A0 c0 l0 a1 w hr0 hc0 h1
  · obtain ⟨rfl, rfl, rfl, rfl⟩ : r1 = false ∧ r2 = false ∧ r3 = true ∧ r4 = false := by simpa [refBar, eq_comm] using h2
    exact refBar_7 A0 c0 l0 a1 w hr0 hc0 h1
  · obtain ⟨rfl, rfl, rfl, rfl⟩ : r1 = false ∧ r2 = false ∧ r3 = false ∧ r4 = true := by simpa [refBar, eq_comm] using h2
    exact refBar_8 A0 c0 l0 a1 w hr0 hc0 h1
  · obtain ⟨rfl, rfl, rfl, rfl⟩ : r1 = true ∧ r2 = false ∧ r3 = false ∧ r4 = true := by simpa [refBar, eq_comm] using h2
    exact refBar_9 A0 c0 l0 a1 w hr0 hc0 h1
  · obtain ⟨rfl, rfl, rfl, rfl⟩ : r1 = false ∧ r2 = true ∧ r3 = false ∧ r4 = true := by simpa [refBar, eq_comm] using h2
    exact refBar_10 A0 c0 l0 a1 w hr0 hc0 h1
  · obtain ⟨rfl, rfl, rfl, rfl⟩ : r1 = false ∧ r2 = false ∧ r3 = false ∧ r4 = true := by simpa [refBar, eq_comm] using h2
    exact refBar_11 A0 c0 l0 a1 w hr0 hc0 h1
  · obtain ⟨rfl, rfl, rfl, rfl⟩ : r1 = false ∧ r2 = false ∧ r3 = false ∧ r4 = false := by simpa [refBar, eq_comm] using h2
    exact refBar_12 A0 c0 l0 a1 w hr0 hc0 h1
  · obtain ⟨rfl, rfl, rfl, rfl⟩ : r1 = true ∧ r2 = false ∧ r3 = false ∧ r4 = false := by simpa [refBar, eq_comm] using h2
    exact refBar_13 A0 c0 l0 a1 w hr0 hc0 h1
  · obtain ⟨rfl, rfl, rfl, rfl⟩ : r1 = false ∧ r2 = true ∧ r3 = false ∧ r4 = false := by simpa [refBar, eq_comm] using h2
    exact refBar_14 A0 c0 l0 a1 w hr0 hc0 h1
  · obtain ⟨rfl, rfl, rfl, rfl⟩ : r1 = false ∧ r2 = false ∧ r3 = false ∧ r4 = false := by simpa [refBar, eq_comm] using h2
    exact refBar_15 A0 c0 l0 a1 w hr0 hc0 h1
end Go.Proofs.YtfijlaahifeimaaDoor.PS
/- Plain laws of what the sensor's functions compute: of what is no single byte, and of each byte. -/
namespace Go.Proofs.YtfijlaahifeimaaDoor.PS
open Go.RowKit Go.Proofs.YtfijlaahifeimaaDoorW.PrintWords Go.Proofs.YtfijlaahifeimaaDoorW.PrintLast Go.Proofs.YtfijlaahifeimaaDoorW.PrintMore
set_option linter.unusedVariables false
set_option linter.unusedSimpArgs false

/-- No single byte is told. -/
def NoOne (l : List Int) (ok : Bool) : Prop := ¬ (ok = true ∧ l.length = 1)
theorem single_no {l : List Int} {ok : Bool} (h : NoOne l ok) (b : Int) : sensor_single.f l ok b = some (0, false) := by
  unfold sensor_single.f
  by_cases c1 : ok = true
  · have : ¬ (l.length : Int) = 1 := fun e => h ⟨c1, by omega⟩
    rw [if_pos c1, if_neg this]
  · rw [if_neg c1]
theorem power_no {l : List Int} {ok : Bool} (h : NoOne l ok) : sensor_Power.f l ok = some (false, false) := by
  unfold sensor_Power.f; rw [single_no h]; rfl
theorem barrier_no {l : List Int} {ok : Bool} (h : NoOne l ok) : sensor_Barrier.f l ok = some (false, false, false, false) := by
  unfold sensor_Barrier.f; rw [single_no h]; rfl
theorem lamps_no {l : List Int} {ok : Bool} (h : NoOne l ok) : sensor_Lamps.f l ok = some false := by
  unfold sensor_Lamps.f; rw [single_no h]; rfl
theorem obstacle_no {l : List Int} {ok : Bool} (h : NoOne l ok) : sensor_Obstacle.f l ok = some true := by
  unfold sensor_Obstacle.f; rw [single_no h]; rfl
theorem mode_no {l : List Int} {ok : Bool} (h : NoOne l ok) : sensor_Mode.f l ok = some 1 := by
  unfold sensor_Mode.f; rw [single_no h]; rfl
theorem routes_no {l : List Int} {ok : Bool} (h : NoOne l ok) (t : Int) : sensor_Routes.f l ok t = some 0 := by
  unfold sensor_Routes.f; rw [single_no h]; rfl
theorem byte_wf {x : Int} (h : (Lit.int .u8 x).wf = true) : 0 ≤ x ∧ x ≤ 255 := by
  have e1 : IntKind.u8.min = 0 := rfl
  have e2 : IntKind.u8.max = 255 := rfl
  simp [Lit.wf, e1, e2] at h
  omega
/-- Either no single byte is told, or just one. -/
theorem one_or (l : List Int) (ok : Bool) (hb : ∀ x ∈ l, (Lit.int .u8 x).wf = true) : NoOne l ok ∨ (ok = true ∧ ∃ x : Int, l = [x] ∧ 0 ≤ x ∧ x ≤ 255) := by
  by_cases c : ok = true ∧ l.length = 1
  · obtain ⟨c1, c2⟩ := c
    match l, c2 with
    | [x], _ =>
      have := hb x (by simp)
      have hx := byte_wf this
      exact .inr ⟨c1, x, rfl, hx⟩
  · exact .inl c
/-- What holds of each number below 256 by reckoning holds of each byte. -/
theorem bytes_all (P : Int → Bool) (h : (List.range 256).all (fun n => P (n : Int)) = true) (x : Int) (h0 : 0 ≤ x) (h1 : x ≤ 255) : P x = true := by
  have := List.all_eq_true.1 h x.toNat (List.mem_range.2 (by omega))
  rwa [Int.toNat_of_nonneg h0] at this
/-- Counts of what has not four bytes, or is not told. -/
theorem counts_no {l : List Int} {ok : Bool} (h : ¬ (ok = true ∧ l.length = 4)) : sensor_Counts.f l ok = some (false, 0, 0, 0, 0) := by
  unfold sensor_Counts.f
  by_cases c1 : ok = true
  · have : ¬ (l.length : Int) = 4 := fun e => h ⟨c1, by omega⟩
    rw [if_pos c1, if_neg this]
  · rw [if_neg c1]
theorem wrap_byte {x : Int} (h0 : 0 ≤ x) (h1 : x ≤ 255) : wrap64 x = x := by unfold wrap64; omega
theorem counts_four (a b c d : Int) (ha : 0 ≤ a ∧ a ≤ 255) (hb : 0 ≤ b ∧ b ≤ 255) (hc : 0 ≤ c ∧ c ≤ 255) (hd : 0 ≤ d ∧ d ≤ 255) :
    sensor_Counts.f [a, b, c, d] true = if c ≤ 2 ∧ d ≤ 3 then some (true, a, b, c, d) else some (false, 0, 0, 0, 0) := by
  unfold sensor_Counts.f
  rw [if_pos rfl, if_pos (by rfl), if_pos (by simp)]
  have e0 : rd [a, b, c, d] 0 = a := rfl
  have e1 : rd [a, b, c, d] 1 = b := rfl
  have e2 : rd [a, b, c, d] 2 = c := rfl
  have e3 : rd [a, b, c, d] 3 = d := rfl
  rw [e0, e1, e2, e3, wrap_byte ha.1 ha.2, wrap_byte hb.1 hb.2, wrap_byte hc.1 hc.2, wrap_byte hd.1 hd.2]
  by_cases c1 : c ≥ 3
  · rw [if_pos c1, if_neg (by omega)]
  · rw [if_neg c1, if_pos (by simp)]
    by_cases c2 : d ≥ 4
    · rw [if_pos c2, if_neg (by omega)]
    · rw [if_neg c2, if_pos (by simp), if_pos (by simp), if_pos (by omega)]
theorem four_or (l : List Int) (ok : Bool) (hb : ∀ x ∈ l, (Lit.int .u8 x).wf = true) : ¬ (ok = true ∧ l.length = 4) ∨ (ok = true ∧ ∃ a b c d : Int, l = [a, b, c, d] ∧ (0 ≤ a ∧ a ≤ 255) ∧ (0 ≤ b ∧ b ≤ 255) ∧ (0 ≤ c ∧ c ≤ 255) ∧ (0 ≤ d ∧ d ≤ 255)) := by
  by_cases c : ok = true ∧ l.length = 4
  · obtain ⟨c1, c2⟩ := c
    match l, c2 with
    | [a, b, c, d], _ =>
      have h : ∀ x ∈ [a, b, c, d], 0 ≤ x ∧ x ≤ 255 := fun x hx => byte_wf (hb x hx)
      exact .inr ⟨c1, a, b, c, d, rfl, h a (by simp), h b (by simp), h c (by simp), h d (by simp)⟩
  · exact .inl c
end Go.Proofs.YtfijlaahifeimaaDoor.PS
/- What channels say: the sensor's functions and the reference's return the same of any bytes. -/
namespace Go.Proofs.YtfijlaahifeimaaDoor.PS
open Go.RowKit Go.Proofs.YtfijlaahifeimaaDoorW.PrintWords Go.Proofs.YtfijlaahifeimaaDoorW.PrintLast Go.Proofs.YtfijlaahifeimaaDoorW.PrintMore
set_option linter.unusedVariables false
set_option linter.unusedSimpArgs false

theorem rone_no {l : List Int} {ok : Bool} (h : NoOne l ok) : crossbuckref13_one.f l ok = some (-1) := by
  unfold crossbuckref13_one.f
  by_cases c1 : ok = true
  · have : ¬ (l.length : Int) = 1 := fun e => h ⟨c1, by omega⟩
    rw [if_pos c1, if_neg this]
  · rw [if_neg c1]
def sameO {α : Type} [BEq α] (a b : Option α) : Bool := match a, b with | some x, some y => x == y | _, _ => false
theorem sameO_of {α : Type} [BEq α] [LawfulBEq α] {a b : Option α} (h : sameO a b = true) : ∃ x, a = some x ∧ b = some x := by
  cases a <;> cases b <;> simp_all [sameO]
theorem power_same (l : List Int) (ok : Bool) (hb : ∀ x ∈ l, (Lit.int .u8 x).wf = true) : ∃ a b, sensor_Power.f l ok = some (a, b) ∧ crossbuckref13_Power.f l ok = some (a, b) := by
  rcases one_or l ok hb with h | ⟨rfl, x, rfl, h0, h1⟩
  · exact ⟨_, _, power_no h, by unfold crossbuckref13_Power.f; rw [rone_no h]; rfl⟩
  · obtain ⟨⟨a, b⟩, e⟩ := sameO_of (bytes_all (fun x => sameO (sensor_Power.f [x] true) (crossbuckref13_Power.f [x] true)) (by kernel_rfl) x h0 h1)
    exact ⟨a, b, e⟩
theorem barrier_same (l : List Int) (ok : Bool) (hb : ∀ x ∈ l, (Lit.int .u8 x).wf = true) : ∃ a b c d, sensor_Barrier.f l ok = some (a, b, c, d) ∧ crossbuckref13_Barrier.f 0 l ok = some (a, b, c, d) := by
  rcases one_or l ok hb with h | ⟨rfl, x, rfl, h0, h1⟩
  · exact ⟨_, _, _, _, barrier_no h, by unfold crossbuckref13_Barrier.f; rw [rone_no h]; rfl⟩
  · obtain ⟨⟨a, b, c, d⟩, e⟩ := sameO_of (bytes_all (fun x => sameO (sensor_Barrier.f [x] true) (crossbuckref13_Barrier.f 0 [x] true)) (by kernel_rfl) x h0 h1)
    exact ⟨a, b, c, d, e⟩
theorem lamps_same (l : List Int) (ok : Bool) (hb : ∀ x ∈ l, (Lit.int .u8 x).wf = true) : ∃ a, sensor_Lamps.f l ok = some a ∧ crossbuckref13_Lamps.f l ok = some a := by
  rcases one_or l ok hb with h | ⟨rfl, x, rfl, h0, h1⟩
  · exact ⟨_, lamps_no h, by unfold crossbuckref13_Lamps.f; rw [rone_no h]; rfl⟩
  · exact sameO_of (bytes_all (fun x => sameO (sensor_Lamps.f [x] true) (crossbuckref13_Lamps.f [x] true)) (by kernel_rfl) x h0 h1)
theorem obstacle_same (l : List Int) (ok : Bool) (hb : ∀ x ∈ l, (Lit.int .u8 x).wf = true) : ∃ a, sensor_Obstacle.f l ok = some a ∧ crossbuckref13_Obstacle.f l ok = some a := by
  rcases one_or l ok hb with h | ⟨rfl, x, rfl, h0, h1⟩
  · exact ⟨_, obstacle_no h, by unfold crossbuckref13_Obstacle.f; rw [rone_no h]; rfl⟩
  · exact sameO_of (bytes_all (fun x => sameO (sensor_Obstacle.f [x] true) (crossbuckref13_Obstacle.f [x] true)) (by kernel_rfl) x h0 h1)
theorem mode_same (l : List Int) (ok : Bool) (hb : ∀ x ∈ l, (Lit.int .u8 x).wf = true) : ∃ a, sensor_Mode.f l ok = some a ∧ crossbuckref13_Mode.f l ok = some a := by
  rcases one_or l ok hb with h | ⟨rfl, x, rfl, h0, h1⟩
  · exact ⟨_, mode_no h, by unfold crossbuckref13_Mode.f; rw [rone_no h]; rfl⟩
  · exact sameO_of (bytes_all (fun x => sameO (sensor_Mode.f [x] true) (crossbuckref13_Mode.f [x] true)) (by kernel_rfl) x h0 h1)
theorem counts_same (l : List Int) (ok : Bool) (hb : ∀ x ∈ l, (Lit.int .u8 x).wf = true) : ∃ a b c d e, sensor_Counts.f l ok = some (a, b, c, d, e) ∧ crossbuckref13_Counts.f l ok = some (a, b, c, d, e) := by
  have e : crossbuckref13_Counts.f l ok = sensor_Counts.f l ok := by
    unfold crossbuckref13_Counts.f sensor_Counts.f
    have e1 : (rd l 2 > 2) = (rd l 2 ≥ 3) := propext (by omega)
    have e2 : (rd l 3 > 3) = (rd l 3 ≥ 4) := propext (by omega)
    simp only [e1, e2]
  rw [e]
  rcases four_or l ok hb with h | ⟨rfl, a, b, c, d, rfl, ha, hb, hc, hd⟩
  · exact ⟨_, _, _, _, _, counts_no h, counts_no h⟩
  · rw [counts_four a b c d ha hb hc hd]
    split
    · exact ⟨_, _, _, _, _, rfl, rfl⟩
    · exact ⟨_, _, _, _, _, rfl, rfl⟩
/-- The bound of routes, and the reference's, of 0 to 8 tracks. -/
theorem routes_tab : ∀ t : Int, 0 ≤ t → t ≤ 8 → ∀ x : Int, -1 ≤ x → x ≤ 255 →
    sameO (some (if x < 0 then 0 else if x ≥ 2 ^ t.toNat then 0 else x)) (crossbuckref13_Routes.l0 10 t x 1 0) = true := by
  intro t h0 h1 x hx hy
  have h := List.all_eq_true.1 (show (List.range 9).all (fun t => (List.range 257).all fun x => sameO (some (if ((x : Int) - 1) < 0 then 0 else if ((x : Int) - 1) ≥ 2 ^ ((t : Int)).toNat then 0 else ((x : Int) - 1))) (crossbuckref13_Routes.l0 10 t ((x : Int) - 1) 1 0)) = true by kernel_rfl) t.toNat (List.mem_range.2 (by omega))
  have h2 := List.all_eq_true.1 h (x + 1).toNat (List.mem_range.2 (by omega))
  rw [Int.toNat_of_nonneg h0, Int.toNat_of_nonneg (by omega), show x + 1 - 1 = x by omega] at h2
  exact h2
theorem rroutes_low (t x : Int) (h : t ≤ 0) : crossbuckref13_Routes.l0 10 t x 1 0 = crossbuckref13_Routes.l0 10 0 x 1 0 := by
  have e : ∀ t, t ≤ 0 → ¬ (0 : Int) < mn t 8 := fun t h => by unfold mn; omega
  simp only [crossbuckref13_Routes.l0, if_neg (e t h), if_neg (e 0 (by omega))]
theorem rroutes_high_l (x t : Int) (h : 8 ≤ t) : ∀ k a b, crossbuckref13_Routes.l0 k t x a b = crossbuckref13_Routes.l0 k 8 x a b
  | 0, _, _ => rfl
  | k + 1, a, b => by
    have e : mn t 8 = mn 8 8 := by unfold mn; omega
    simp only [crossbuckref13_Routes.l0, e, rroutes_high_l x t h k]
theorem routes_same (l : List Int) (ok : Bool) (t : Int) (hb : ∀ x ∈ l, (Lit.int .u8 x).wf = true) : ∃ a, sensor_Routes.f l ok t = some a ∧ crossbuckref13_Routes.f 10 l ok t = some a := by
  have key : ∀ x : Int, -1 ≤ x → x ≤ 255 → ∃ s : Int, 0 ≤ s ∧ s ≤ 8 ∧ mx 0 (mn t 8) = s ∧ crossbuckref13_Routes.l0 10 t x 1 0 = some (if x < 0 then 0 else if x ≥ 2 ^ s.toNat then 0 else x) := by
    intro x hx hy
    have tab : ∀ s : Int, 0 ≤ s → s ≤ 8 → crossbuckref13_Routes.l0 10 s x 1 0 = some (if x < 0 then 0 else if x ≥ 2 ^ s.toNat then 0 else x) := fun s h0 h1 => by
      obtain ⟨a, h2, h3⟩ := sameO_of (routes_tab s h0 h1 x hx hy)
      rw [h3, ← h2]
    by_cases c1 : t ≤ 0
    · exact ⟨0, by omega, by omega, by unfold mx mn; omega, by rw [rroutes_low t x c1]; exact tab 0 (by omega) (by omega)⟩
    by_cases c2 : 8 ≤ t
    · exact ⟨8, by omega, by omega, by unfold mx mn; omega, by rw [rroutes_high_l x t c2]; exact tab 8 (by omega) (by omega)⟩
    · exact ⟨t, by omega, by omega, by unfold mx mn; omega, tab t (by omega) (by omega)⟩
  rcases one_or l ok hb with h | ⟨rfl, x, rfl, h0, h1⟩
  · obtain ⟨s, _, _, _, e⟩ := key (-1) (by omega) (by omega)
    refine ⟨0, routes_no h t, ?_⟩
    unfold crossbuckref13_Routes.f
    rw [rone_no h, Option.bind_some, e, if_pos (by omega)]
  · obtain ⟨s, hs0, hs1, es, e⟩ := key x (by omega) h1
    refine ⟨_, ?_, by unfold crossbuckref13_Routes.f; rw [show crossbuckref13_one.f [x] true = some x by unfold crossbuckref13_one.f; rw [if_pos rfl, if_pos (by simp), if_pos (by simp), show rd [x] 0 = x from rfl, wrap_byte h0 h1], Option.bind_some, e]⟩
    have hw : wrap64 (2 ^ s.toNat) = 2 ^ s.toNat := by
      have : s = 0 ∨ s = 1 ∨ s = 2 ∨ s = 3 ∨ s = 4 ∨ s = 5 ∨ s = 6 ∨ s = 7 ∨ s = 8 := by omega
      rcases this with rfl | rfl | rfl | rfl | rfl | rfl | rfl | rfl | rfl <;> (unfold wrap64; decide)
    unfold sensor_Routes.f
    rw [es, hw]
    unfold sensor_single.f
    rw [if_pos rfl, if_pos (by simp), if_pos (by simp), show rd [x] 0 = x from rfl, wrap_byte h0 h1, if_neg (show ¬ x < 0 by omega)]
    by_cases c : x ≥ 2 ^ s.toNat
    · rw [if_pos c, if_pos c]; rfl
    · rw [if_neg c, if_neg c]; rfl
end Go.Proofs.YtfijlaahifeimaaDoor.PS
/- What the reference's functions return of any bytes: what the sensor's do. -/
namespace Go.Proofs.YtfijlaahifeimaaDoor.PS
open Go.RowKit Go.Proofs.YtfijlaahifeimaaDoorW.PrintWords Go.Proofs.YtfijlaahifeimaaDoorW.PrintLast Go.Proofs.YtfijlaahifeimaaDoorW.PrintMore
set_option linter.unusedVariables false
theorem rBar_eq {l : List Int} (ok : Bool) (hb : ∀ x ∈ l, (Lit.int .u8 x).wf = true) : crossbuckref13_Barrier.f 0 l ok = some ((sBar l ok).1, (sBar l ok).2.1, (sBar l ok).2.2.1, (sBar l ok).2.2.2) := by
  obtain ⟨a, b, c, d, h1, h2⟩ := barrier_same l ok hb
  rw [h2, ← h1, sBar_eq]
theorem rLamps_eq {l : List Int} (ok : Bool) (hb : ∀ x ∈ l, (Lit.int .u8 x).wf = true) : crossbuckref13_Lamps.f l ok = some (sLamps l ok) := by
  obtain ⟨a, h1, h2⟩ := lamps_same l ok hb
  rw [h2, ← h1, sLamps_eq]
theorem rObst_eq {l : List Int} (ok : Bool) (hb : ∀ x ∈ l, (Lit.int .u8 x).wf = true) : crossbuckref13_Obstacle.f l ok = some (sObst l ok) := by
  obtain ⟨a, h1, h2⟩ := obstacle_same l ok hb
  rw [h2, ← h1, sObst_eq]
theorem rMode_eq {l : List Int} (ok : Bool) (hb : ∀ x ∈ l, (Lit.int .u8 x).wf = true) : crossbuckref13_Mode.f l ok = some (sMode l ok) := by
  obtain ⟨a, h1, h2⟩ := mode_same l ok hb
  rw [h2, ← h1, sMode_eq]
theorem rPower_eq {l : List Int} (ok : Bool) (hb : ∀ x ∈ l, (Lit.int .u8 x).wf = true) : crossbuckref13_Power.f l ok = some ((sPower l ok).1, (sPower l ok).2) := by
  obtain ⟨a, b, h1, h2⟩ := power_same l ok hb
  rw [h2, ← h1, sPower_eq]
theorem rRoutes_eq {l : List Int} (ok : Bool) (n : Int) (hb : ∀ x ∈ l, (Lit.int .u8 x).wf = true) : crossbuckref13_Routes.f 10 l ok n = some (sRoutes l ok n) := by
  obtain ⟨a, h1, h2⟩ := routes_same l ok n hb
  rw [h2, ← h1, sRoutes_eq]
theorem rCnt_eq {l : List Int} (ok : Bool) (hb : ∀ x ∈ l, (Lit.int .u8 x).wf = true) : crossbuckref13_Counts.f l ok = some ((sCnt l ok).f0, (sCnt l ok).f1, (sCnt l ok).f2, (sCnt l ok).f3, (sCnt l ok).f4) := by
  obtain ⟨a, b, c, d, e, h1, h2⟩ := counts_same l ok hb
  rw [h2, ← h1, sCnt_eq]
end Go.Proofs.YtfijlaahifeimaaDoor.PS
/- crossbuckref13_Counts: what it returns of any bytes, by a walk. -/
namespace Go.Proofs.YtfijlaahifeimaaDoor.PS
open Go.RowKit Go.Extern.Stop Go.Stop Go.Extern Go.Proofs.YtfijlaahifeimaaDoorW.PrintWords Go.Proofs.YtfijlaahifeimaaDoorW.PrintLast Go.Proofs.YtfijlaahifeimaaDoorW.PrintMore
set_option linter.unusedVariables false
set_option linter.unusedSimpArgs false
theorem crossbuckref13_Counts_cell {w : World} {A : Option Addr} {n : Nat} {xs : List Int} (h : Kd.C (Kd.int .u8) w A n xs) (h0 : 0 < n) : ∃ ad, A = some ad ∧ ∀ i, i < n → w.cell? (ad.add i) = some (.int .u8 (rd xs i)) := by
  obtain ⟨ad, rfl, hcell⟩ := h.2.2 h0
  refine ⟨ad, rfl, fun i hi => ?_⟩
  have hl : xs.length = n := h.1
  obtain ⟨y, hy⟩ : ∃ y, xs[i]? = some y := ⟨xs[i]'(by omega), List.getElem?_eq_getElem (by omega)⟩
  obtain ⟨cs, hlen, hK, hu⟩ := hcell i y hy
  have hK' : cs = [.int .u8 y] := hK
  subst hK'
  have h2 := hu 0 _ rfl
  have e : rd xs i = y := by unfold rd; rw [Int.toNat_natCast, List.getD_eq_getElem?_getD, hy]; rfl
  have e2 : i * (Kd.int .u8).sz + 0 = i := by show i * 1 + 0 = i; omega
  rw [e2] at h2
  rw [e]
  exact h2
set_option maxHeartbeats 4000000 in
set_option maxRecDepth 100000 in
theorem crossbuckref13_Counts.calls (A0 : Option Addr) (c0 : Nat) (l0 : List Int) (a1 : Bool) (r1 : Bool) (r2 : Int) (r3 : Int) (r4 : Int) (r5 : Int) (w : World) (hr0 : Kd.C (Kd.int .u8) w A0 l0.length l0) (hc0 : l0.length ≤ c0) (h : crossbuckref13_Counts.f l0 a1 = some (r1, r2, r3, r4, r5)) :
    Calls Tryd.prog 44 #[.slice A0 l0.length c0, .bool a1] w fun e w' => e = .returned (.agg #[.bool r1, .int .i64 r2, .int .i64 r3, .int .i64 r4, .int .i64 r5]) ∧ Below w.heap.size w w' := by
  have B : Below w.heap.size w (w.alloc (.cells #[.bool false, .int .i64 0, .int .i64 0, .int .i64 0, .int .i64 0] 48)) := below_alloc (Below.refl _ _) _
  have HB := Aside0.mk B
  unfold crossbuckref13_Counts.f at h
  have zero : ∀ {a : Bool} {b c d e : Int}, some (false, (0 : Int), (0 : Int), (0 : Int), (0 : Int)) = some (a, b, c, d, e) → a = false ∧ b = 0 ∧ c = 0 ∧ d = 0 ∧ e = 0 := fun h => by injection h with h; injection h with h1 h; injection h with h2 h; injection h with h3 h; injection h with h4 h5; exact ⟨h1.symm, h2.symm, h3.symm, h4.symm, h5.symm⟩
  cases a1 with
  | false =>
    rw [if_neg (by decide)] at h
    obtain ⟨rfl, rfl, rfl, rfl, rfl⟩ := zero h
    clear h zero B hr0 hc0
    go_enter Tryd.func44, Tryd.ntmps44
    go_wp2_with fail
    exact bodyPost_ret (v := .agg #[.bool false, .int .i64 0, .int .i64 0, .int .i64 0, .int .i64 0]) (by simp [results, Tryd.results44, go_sem]) rfl ⟨rfl, HB.out⟩
  | true =>
    rw [if_pos rfl] at h
    by_cases h4 : (l0.length : Int) = 4
    · rw [if_pos h4, if_pos (by omega)] at h
      have hl : l0.length = 4 := by omega
      rw [hl] at hr0 hc0 ⊢
      obtain ⟨ad, rfl, hcell⟩ := crossbuckref13_Counts_cell hr0 (by decide)
      have HC0 := Aside0.mk (hcell 0 (by decide))
      have HC1 := Aside0.mk (hcell 1 (by decide))
      have HC2 := Aside0.mk (hcell 2 (by decide))
      have HC3 := Aside0.mk (hcell 3 (by decide))
      have e0 : rd l0 ((0 : Nat) : Int) = rd l0 0 := rfl
      have e1 : rd l0 ((1 : Nat) : Int) = rd l0 1 := rfl
      have e2 : rd l0 ((2 : Nat) : Int) = rd l0 2 := rfl
      have e3 : rd l0 ((3 : Nat) : Int) = rd l0 3 := rfl
      rw [e0] at HC0; rw [e1] at HC1; rw [e2] at HC2; rw [e3] at HC3
      generalize rd l0 0 = x0 at h HC0
      generalize rd l0 1 = x1 at h HC1
      generalize rd l0 2 = x2 at h HC2
      generalize rd l0 3 = x3 at h HC3
      clear e0 e1 e2 e3 hcell hr0
      have a0 : World.cell? (w.alloc (.cells #[.bool false, .int .i64 0, .int .i64 0, .int .i64 0, .int .i64 0] 48)) ad = some (.int .u8 x0) := by
        have e : ad.add 0 = ad := by cases ad; simp [Addr.add]
        have := pw_cell_below B HC0.out
        rwa [e] at this
      have a2 : World.cell? (w.alloc (.cells #[.bool false, .int .i64 0, .int .i64 0, .int .i64 0, .int .i64 0] 48)) ⟨ad.block, ad.off + 2, none⟩ = some (.int .u8 x2) := pw_cell_below B HC2.out
      have a3 : World.cell? (w.alloc (.cells #[.bool false, .int .i64 0, .int .i64 0, .int .i64 0, .int .i64 0] 48)) ⟨ad.block, ad.off + 3, none⟩ = some (.int .u8 x3) := pw_cell_below B HC3.out
      have a1 : World.cell? (w.alloc (.cells #[.bool false, .int .i64 0, .int .i64 0, .int .i64 0, .int .i64 0] 48)) ⟨ad.block, ad.off + 1, none⟩ = some (.int .u8 x1) := pw_cell_below B HC1.out
      by_cases c2 : x2 > 2
      · rw [if_pos c2] at h
        obtain ⟨rfl, rfl, rfl, rfl, rfl⟩ := zero h
        have d2 : decide (2 < x2) = true := decide_eq_true (by omega)
        clear h zero B c2 a0 a1 a3
        go_enter Tryd.func44, Tryd.ntmps44
        go_wp2_with fail
        exact bodyPost_ret (v := .agg #[.bool false, .int .i64 0, .int .i64 0, .int .i64 0, .int .i64 0]) (by simp [results, Tryd.results44, go_sem]) rfl ⟨rfl, HB.out⟩
      · rw [if_neg c2, if_pos (by omega)] at h
        have d2 : decide (2 < x2) = false := decide_eq_false (by omega)
        by_cases c3 : x3 > 3
        · rw [if_pos c3] at h
          obtain ⟨rfl, rfl, rfl, rfl, rfl⟩ := zero h
          have d3 : decide (3 < x3) = true := decide_eq_true (by omega)
          clear h zero B c2 c3 a0 a1
          go_enter Tryd.func44, Tryd.ntmps44
          go_wp2_with fail
          exact bodyPost_ret (v := .agg #[.bool false, .int .i64 0, .int .i64 0, .int .i64 0, .int .i64 0]) (by simp [results, Tryd.results44, go_sem]) rfl ⟨rfl, HB.out⟩
        · rw [if_neg c3, if_pos (by omega), if_pos (by omega)] at h
          injection h with h; injection h with h1 h; injection h with h2 h; injection h with h3 h; injection h with h4' h5
          rw [← i64_w] at h2 h3 h4' h5
          subst h1; subst h2; subst h3; subst h4'; subst h5
          have d3 : decide (3 < x3) = false := decide_eq_false (by omega)
          have HH := Aside0.mk (heap_alloc_new w (.cells #[.bool false, .int .i64 0, .int .i64 0, .int .i64 0, .int .i64 0] 48))
          clear zero B c2 c3
          go_enter Tryd.func44, Tryd.ntmps44
          go_upto_region 3 with fail
          obtain ⟨w1, hw1⟩ : ∃ w1, w1 = w.alloc (.cells #[.bool false, .int .i64 0, .int .i64 0, .int .i64 0, .int .i64 0] 48) := ⟨_, rfl⟩
          rw [← hw1] at a0 a1 a2 a3 HB HH ⊢
          clear hw1
          refine wp_region_last_drew (S := (fun W => W.cell? ad = some (.int .u8 x0) ∧ W.cell? ⟨ad.block, ad.off + 1, none⟩ = some (.int .u8 x1) ∧ W.cell? ⟨ad.block, ad.off + 2, none⟩ = some (.int .u8 x2) ∧ W.cell? ⟨ad.block, ad.off + 3, none⟩ = some (.int .u8 x3))) (ds := [17]) (by kernel_rfl) ?_ (fun hHeld => ?_)
          · exact ⟨a0, a1, a2, a3⟩
          refine wpAnyLast_take (i := 0) (oi := { dst := some 25, op := Go.Op.move (Go.Operand.tmp 0), type := 44, pos := "ref.go:76", after := #[], guard := none }) (v := ?vz0) rfl (by kernel_rfl) (by kernel_rfl) (by kernel_rfl) (by kernel_rfl) (by kernel_rfl) (fun _ _ _ h => h) (Or.inl ⟨by rfl, ?yz0⟩) (by assumption) ?rz0
          case yz0 => (((intro w hSw; (try dsimp only at hSw); go_simp) <;> with_reducible rfl))
          try simp only [put_]
          refine wpAnyLast_take (i := 1) (oi := { dst := some 26, op := Go.Op.indexAddr 44 (Go.Operand.tmp 25) (Go.Operand.const (Go.Value.int Go.IntKind.i64 0)), type := 0, pos := "ref.go:76", after := #[{ on := 0, ground := Go.Ground.data }], guard := none }) (v := ?vz1) rfl (by kernel_rfl) (by kernel_rfl) (by kernel_rfl) (by kernel_rfl) (by kernel_rfl) (fun _ _ _ h => h) (Or.inl ⟨by rfl, ?yz1⟩) (by assumption) ?rz1
          case yz1 => (((intro w hSw; (try dsimp only at hSw); go_simp) <;> with_reducible rfl))
          try simp only [put_]
          refine wpAnyLast_take (i := 2) (oi := { dst := some 27, op := Go.Op.load 5 (Go.Operand.tmp 26), type := 5, pos := "ref.go:76", after := #[{ on := 1, ground := Go.Ground.data }], guard := none }) (v := ?vz2) rfl (by kernel_rfl) (by kernel_rfl) (by kernel_rfl) (by kernel_rfl) (by kernel_rfl) (fun _ _ _ h => h) (Or.inl ⟨by rfl, ?yz2⟩) (by assumption) ?rz2
          case yz2 => (((intro w hSw; (try dsimp only at hSw); go_simp) <;> with_reducible rfl))
          try simp only [put_]
          refine wpAnyLast_take (i := 3) (oi := { dst := some 28, op := Go.Op.convert 5 3 (Go.Operand.tmp 27), type := 3, pos := "ref.go:76", after := #[{ on := 2, ground := Go.Ground.data }], guard := none }) (v := ?vz3) rfl (by kernel_rfl) (by kernel_rfl) (by kernel_rfl) (by kernel_rfl) (by kernel_rfl) (fun _ _ _ h => h) (Or.inl ⟨by rfl, ?yz3⟩) (by assumption) ?rz3
          case yz3 => (((intro w hSw; (try dsimp only at hSw); go_simp) <;> with_reducible rfl))
          try simp only [put_]
          refine wpAnyLast_take (i := 4) (oi := { dst := some 29, op := Go.Op.move (Go.Operand.tmp 0), type := 44, pos := "ref.go:76", after := #[], guard := none }) (v := ?vz4) rfl (by kernel_rfl) (by kernel_rfl) (by kernel_rfl) (by kernel_rfl) (by kernel_rfl) (fun _ _ _ h => h) (Or.inl ⟨by rfl, ?yz4⟩) (by assumption) ?rz4
          case yz4 => (((intro w hSw; (try dsimp only at hSw); go_simp) <;> with_reducible rfl))
          try simp only [put_]
          refine wpAnyLast_take (i := 5) (oi := { dst := some 30, op := Go.Op.indexAddr 44 (Go.Operand.tmp 29) (Go.Operand.const (Go.Value.int Go.IntKind.i64 1)), type := 0, pos := "ref.go:76", after := #[{ on := 4, ground := Go.Ground.data }], guard := none }) (v := ?vz5) rfl (by kernel_rfl) (by kernel_rfl) (by kernel_rfl) (by kernel_rfl) (by kernel_rfl) (fun _ _ _ h => h) (Or.inl ⟨by rfl, ?yz5⟩) (by assumption) ?rz5
          case yz5 => (((intro w hSw; (try dsimp only at hSw); go_simp) <;> with_reducible rfl))
          try simp only [put_]
          refine wpAnyLast_take (i := 6) (oi := { dst := some 31, op := Go.Op.load 5 (Go.Operand.tmp 30), type := 5, pos := "ref.go:76", after := #[{ on := 5, ground := Go.Ground.data }], guard := none }) (v := ?vz6) rfl (by kernel_rfl) (by kernel_rfl) (by kernel_rfl) (by kernel_rfl) (by kernel_rfl) (fun _ _ _ h => h) (Or.inl ⟨by rfl, ?yz6⟩) (by assumption) ?rz6
          case yz6 => (((intro w hSw; (try dsimp only at hSw); go_simp) <;> with_reducible rfl))
          try simp only [put_]
          refine wpAnyLast_take (i := 7) (oi := { dst := some 32, op := Go.Op.convert 5 3 (Go.Operand.tmp 31), type := 3, pos := "ref.go:76", after := #[{ on := 6, ground := Go.Ground.data }], guard := none }) (v := ?vz7) rfl (by kernel_rfl) (by kernel_rfl) (by kernel_rfl) (by kernel_rfl) (by kernel_rfl) (fun _ _ _ h => h) (Or.inl ⟨by rfl, ?yz7⟩) (by assumption) ?rz7
          case yz7 => (((intro w hSw; (try dsimp only at hSw); go_simp) <;> with_reducible rfl))
          try simp only [put_]
          refine wpAnyLast_take (i := 8) (oi := { dst := some 33, op := Go.Op.move (Go.Operand.tmp 0), type := 44, pos := "ref.go:76", after := #[], guard := none }) (v := ?vz8) rfl (by kernel_rfl) (by kernel_rfl) (by kernel_rfl) (by kernel_rfl) (by kernel_rfl) (fun _ _ _ h => h) (Or.inl ⟨by rfl, ?yz8⟩) (by assumption) ?rz8
          case yz8 => (((intro w hSw; (try dsimp only at hSw); go_simp) <;> with_reducible rfl))
          try simp only [put_]
          refine wpAnyLast_take (i := 9) (oi := { dst := some 34, op := Go.Op.indexAddr 44 (Go.Operand.tmp 33) (Go.Operand.const (Go.Value.int Go.IntKind.i64 2)), type := 0, pos := "ref.go:76", after := #[{ on := 8, ground := Go.Ground.data }], guard := none }) (v := ?vz9) rfl (by kernel_rfl) (by kernel_rfl) (by kernel_rfl) (by kernel_rfl) (by kernel_rfl) (fun _ _ _ h => h) (Or.inl ⟨by rfl, ?yz9⟩) (by assumption) ?rz9
          case yz9 => (((intro w hSw; (try dsimp only at hSw); go_simp) <;> with_reducible rfl))
          try simp only [put_]
          refine wpAnyLast_take (i := 10) (oi := { dst := some 35, op := Go.Op.load 5 (Go.Operand.tmp 34), type := 5, pos := "ref.go:76", after := #[{ on := 9, ground := Go.Ground.data }], guard := none }) (v := ?vz10) rfl (by kernel_rfl) (by kernel_rfl) (by kernel_rfl) (by kernel_rfl) (by kernel_rfl) (fun _ _ _ h => h) (Or.inl ⟨by rfl, ?yz10⟩) (by assumption) ?rz10
          case yz10 => (((intro w hSw; (try dsimp only at hSw); go_simp) <;> with_reducible rfl))
          try simp only [put_]
          refine wpAnyLast_take (i := 11) (oi := { dst := some 36, op := Go.Op.convert 5 3 (Go.Operand.tmp 35), type := 3, pos := "ref.go:76", after := #[{ on := 10, ground := Go.Ground.data }], guard := none }) (v := ?vz11) rfl (by kernel_rfl) (by kernel_rfl) (by kernel_rfl) (by kernel_rfl) (by kernel_rfl) (fun _ _ _ h => h) (Or.inl ⟨by rfl, ?yz11⟩) (by assumption) ?rz11
          case yz11 => (((intro w hSw; (try dsimp only at hSw); go_simp) <;> with_reducible rfl))
          try simp only [put_]
          refine wpAnyLast_take (i := 12) (oi := { dst := some 37, op := Go.Op.move (Go.Operand.tmp 0), type := 44, pos := "ref.go:76", after := #[], guard := none }) (v := ?vz12) rfl (by kernel_rfl) (by kernel_rfl) (by kernel_rfl) (by kernel_rfl) (by kernel_rfl) (fun _ _ _ h => h) (Or.inl ⟨by rfl, ?yz12⟩) (by assumption) ?rz12
          case yz12 => (((intro w hSw; (try dsimp only at hSw); go_simp) <;> with_reducible rfl))
          try simp only [put_]
          refine wpAnyLast_take (i := 13) (oi := { dst := some 38, op := Go.Op.indexAddr 44 (Go.Operand.tmp 37) (Go.Operand.const (Go.Value.int Go.IntKind.i64 3)), type := 0, pos := "ref.go:76", after := #[{ on := 12, ground := Go.Ground.data }], guard := none }) (v := ?vz13) rfl (by kernel_rfl) (by kernel_rfl) (by kernel_rfl) (by kernel_rfl) (by kernel_rfl) (fun _ _ _ h => h) (Or.inl ⟨by rfl, ?yz13⟩) (by assumption) ?rz13
          case yz13 => (((intro w hSw; (try dsimp only at hSw); go_simp) <;> with_reducible rfl))
          try simp only [put_]
          refine wpAnyLast_take (i := 14) (oi := { dst := some 39, op := Go.Op.load 5 (Go.Operand.tmp 38), type := 5, pos := "ref.go:76", after := #[{ on := 13, ground := Go.Ground.data }], guard := none }) (v := ?vz14) rfl (by kernel_rfl) (by kernel_rfl) (by kernel_rfl) (by kernel_rfl) (by kernel_rfl) (fun _ _ _ h => h) (Or.inl ⟨by rfl, ?yz14⟩) (by assumption) ?rz14
          case yz14 => (((intro w hSw; (try dsimp only at hSw); go_simp) <;> with_reducible rfl))
          try simp only [put_]
          refine wpAnyLast_take (i := 15) (oi := { dst := some 40, op := Go.Op.convert 5 3 (Go.Operand.tmp 39), type := 3, pos := "ref.go:76", after := #[{ on := 14, ground := Go.Ground.data }], guard := none }) (v := ?vz15) rfl (by kernel_rfl) (by kernel_rfl) (by kernel_rfl) (by kernel_rfl) (by kernel_rfl) (fun _ _ _ h => h) (Or.inl ⟨by rfl, ?yz15⟩) (by assumption) ?rz15
          case yz15 => (((intro w hSw; (try dsimp only at hSw); go_simp) <;> with_reducible rfl))
          try simp only [put_]
          refine wpAnyLast_take (i := 16) (oi := { dst := some 41, op := Go.Op.build 48 #[(0, Go.Operand.const (Go.Value.bool true)), (1, Go.Operand.tmp 28), (2, Go.Operand.tmp 32), (3, Go.Operand.tmp 36), (4, Go.Operand.tmp 40)], type := 48, pos := "ref.go:76", after := #[{ on := 3, ground := Go.Ground.data }, { on := 7, ground := Go.Ground.data }, { on := 11, ground := Go.Ground.data }, { on := 15, ground := Go.Ground.data }], guard := none }) (v := ?vz16) rfl (by kernel_rfl) (by kernel_rfl) (by kernel_rfl) (by kernel_rfl) (by kernel_rfl) (fun _ _ _ h => h) (Or.inl ⟨by rfl, ?yz16⟩) (by assumption) ?rz16
          case yz16 => (((intro w hSw; (try dsimp only at hSw); go_simp) <;> with_reducible rfl))
          try simp only [put_]
          refine wpAnyLast_ready (rs := [17]) (by kernel_rfl) (by simp) ?_
          refine AllReadyL.cons_last (o := { dst := none, op := Go.Op.store 48 (Go.Operand.tmp 4) (Go.Operand.tmp 41), type := 0, pos := "ref.go:76", after := #[{ on := 16, ground := Go.Ground.data }, { on := 0, ground := Go.Ground.phase }, { on := 1, ground := Go.Ground.phase }, { on := 2, ground := Go.Ground.phase }, { on := 3, ground := Go.Ground.phase }, { on := 4, ground := Go.Ground.phase }, { on := 5, ground := Go.Ground.phase }, { on := 6, ground := Go.Ground.phase }, { on := 7, ground := Go.Ground.phase }, { on := 8, ground := Go.Ground.phase }, { on := 9, ground := Go.Ground.phase }, { on := 10, ground := Go.Ground.phase }, { on := 11, ground := Go.Ground.phase }, { on := 12, ground := Go.Ground.phase }, { on := 13, ground := Go.Ground.phase }, { on := 14, ground := Go.Ground.phase }, { on := 15, ground := Go.Ground.phase }, { on := 16, ground := Go.Ground.phase }], guard := none }) rfl (by decide) (fun K hK => ?kz17) AllReadyL.nil
          have o0 : World.cell? w1 ⟨w.heap.size, 0, none⟩ = some (.bool false) := (blk_cell HH.out 0).trans rfl
          have o1 : World.cell? w1 ⟨w.heap.size, 1, none⟩ = some (.int .i64 0) := (blk_cell HH.out 1).trans rfl
          have o2 : World.cell? w1 ⟨w.heap.size, 2, none⟩ = some (.int .i64 0) := (blk_cell HH.out 2).trans rfl
          have o3 : World.cell? w1 ⟨w.heap.size, 3, none⟩ = some (.int .i64 0) := (blk_cell HH.out 3).trans rfl
          have o4 : World.cell? w1 ⟨w.heap.size, 4, none⟩ = some (.int .i64 0) := (blk_cell HH.out 4).trans rfl
          have g0 : World.frozen? w1 ⟨w.heap.size, 0, none⟩ = false := blk_frozen HH.out 0
          have g1 : World.frozen? w1 ⟨w.heap.size, 1, none⟩ = false := blk_frozen HH.out 1
          have g2 : World.frozen? w1 ⟨w.heap.size, 2, none⟩ = false := blk_frozen HH.out 2
          have g3 : World.frozen? w1 ⟨w.heap.size, 3, none⟩ = false := blk_frozen HH.out 3
          have g4 : World.frozen? w1 ⟨w.heap.size, 4, none⟩ = false := blk_frozen HH.out 4
          have p0 : World.cell? w1.drew ⟨w.heap.size, 0, none⟩ = some (.bool false) := (blk_cell HH.out 0).trans rfl
          have p1 : World.cell? w1.drew ⟨w.heap.size, 1, none⟩ = some (.int .i64 0) := (blk_cell HH.out 1).trans rfl
          have p2 : World.cell? w1.drew ⟨w.heap.size, 2, none⟩ = some (.int .i64 0) := (blk_cell HH.out 2).trans rfl
          have p3 : World.cell? w1.drew ⟨w.heap.size, 3, none⟩ = some (.int .i64 0) := (blk_cell HH.out 3).trans rfl
          have p4 : World.cell? w1.drew ⟨w.heap.size, 4, none⟩ = some (.int .i64 0) := (blk_cell HH.out 4).trans rfl
          have f0 : World.frozen? w1.drew ⟨w.heap.size, 0, none⟩ = false := blk_frozen HH.out 0
          have f1 : World.frozen? w1.drew ⟨w.heap.size, 1, none⟩ = false := blk_frozen HH.out 1
          have f2 : World.frozen? w1.drew ⟨w.heap.size, 2, none⟩ = false := blk_frozen HH.out 2
          have f3 : World.frozen? w1.drew ⟨w.heap.size, 3, none⟩ = false := blk_frozen HH.out 3
          have f4 : World.frozen? w1.drew ⟨w.heap.size, 4, none⟩ = false := blk_frozen HH.out 4
          go_simp
          refine hK.out _ _ ?_
          clear hK K
          try simp only [put_]
          refine wpAnyLast_done (by kernel_rfl) ?_ _
          go_wp2_with fail
          obtain ⟨w2, hw2⟩ : ∃ w2, w2 = (((((w1.setCell ⟨w.heap.size, 0, none⟩ (.bool true)).setCell ⟨w.heap.size, 1, none⟩ (.int .i64 (IntKind.i64.wrap x0))).setCell ⟨w.heap.size, 2, none⟩ (.int .i64 (IntKind.i64.wrap x1))).setCell ⟨w.heap.size, 3, none⟩ (.int .i64 (IntKind.i64.wrap x2))).setCell ⟨w.heap.size, 4, none⟩ (.int .i64 (IntKind.i64.wrap x3))) := ⟨_, rfl⟩
          have H2 : w2.heap[w.heap.size]? = some (.cells #[.bool true, .int .i64 (IntKind.i64.wrap x0), .int .i64 (IntKind.i64.wrap x1), .int .i64 (IntKind.i64.wrap x2), .int .i64 (IntKind.i64.wrap x3)] 48 (0, 0)) := by
            rw [hw2]; simpa using blk_set (blk_set (blk_set (blk_set (blk_set HH.out 0 (.bool true)) 1 (.int .i64 (IntKind.i64.wrap x0))) 2 (.int .i64 (IntKind.i64.wrap x1))) 3 (.int .i64 (IntKind.i64.wrap x2))) 4 (.int .i64 (IntKind.i64.wrap x3))
          have B2 : Below w.heap.size w w2 := by
            rw [hw2]; exact ((((HB.out.setCell (Nat.le_refl _) _).setCell (Nat.le_refl _) _).setCell (Nat.le_refl _) _).setCell (Nat.le_refl _) _).setCell (Nat.le_refl _) _
          rw [← hw2]
          clear hw2
          have r0 : World.cell? w2.drew ⟨w.heap.size, 0, none⟩ = some (.bool true) := (blk_cell H2 0).trans rfl
          have r1 : World.cell? w2.drew ⟨w.heap.size, 1, none⟩ = some (.int .i64 (IntKind.i64.wrap x0)) := (blk_cell H2 1).trans rfl
          have r2 : World.cell? w2.drew ⟨w.heap.size, 2, none⟩ = some (.int .i64 (IntKind.i64.wrap x1)) := (blk_cell H2 2).trans rfl
          have r3 : World.cell? w2.drew ⟨w.heap.size, 3, none⟩ = some (.int .i64 (IntKind.i64.wrap x2)) := (blk_cell H2 3).trans rfl
          have r4 : World.cell? w2.drew ⟨w.heap.size, 4, none⟩ = some (.int .i64 (IntKind.i64.wrap x3)) := (blk_cell H2 4).trans rfl
          exact bodyPost_ret (v := .agg #[.bool true, .int .i64 (IntKind.i64.wrap x0), .int .i64 (IntKind.i64.wrap x1), .int .i64 (IntKind.i64.wrap x2), .int .i64 (IntKind.i64.wrap x3)]) (by simp only [results, Tryd.results44]; go_simp) rfl ⟨rfl, below_drew B2⟩
    · rw [if_neg h4] at h
      obtain ⟨rfl, rfl, rfl, rfl, rfl⟩ := zero h
      have d4 : ((l0.length : Int) != 4) = true := by simpa using h4
      have d4n : (l0.length != 4) = true := by simpa using (show l0.length ≠ 4 by omega)
      clear h zero B hr0 hc0 h4
      go_enter Tryd.func44, Tryd.ntmps44
      go_wp2_with fail
      exact bodyPost_ret (v := .agg #[.bool false, .int .i64 0, .int .i64 0, .int .i64 0, .int .i64 0]) (by simp [results, Tryd.results44, go_sem]) rfl ⟨rfl, HB.out⟩
end Go.Proofs.YtfijlaahifeimaaDoor.PS
