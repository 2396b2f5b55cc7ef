/- slices.Grow of a nil slice by a number from 0 to 2^47: a row of no elements of the call's own. -/
import Derived.Test.YtfijlaahifeimaaDoorPSx0
namespace Go.Proofs.YtfijlaahifeimaaDoor.PS
open Go.RowKit Go.Proofs.YtfijlaahifeimaaDoorW.PrintWords Go.Proofs.YtfijlaahifeimaaDoorW.PrintLast Go.Proofs.YtfijlaahifeimaaDoorW.PrintMore
attribute [local go_sem] max2_int min2_int max_two min_two max_three min_three max_four min_four
set_option linter.unusedVariables false
set_option linter.unusedSimpArgs false

theorem grow_zero (w : World) :
    Calls Tryd.prog 77 #[.slice none 0 0, .int .i64 0] w fun e w' => ∃ v0_ : Value, e = .returned v0_ ∧ Kd.R (Kd.int .u8) 5 w' w.heap.size (fun _ => True) v0_ ([] : List Int) ∧ Below w.heap.size w w' := by
  go_enter Tryd.func77, Tryd.ntmps77
  go_wp2
  go_ret
  exact ⟨_, rfl, Kd.R_nil _ _ _ _ _, Below.refl _ _⟩

theorem grow_pos (n : Int) (w : World) (h0 : 0 < n) (hn : n ≤ 140737488355328) :
    Calls Tryd.prog 77 #[.slice none 0 0, .int .i64 n] w fun e w' => ∃ v0_ : Value, e = .returned v0_ ∧ Kd.R (Kd.int .u8) 5 w' w.heap.size (fun _ => True) v0_ ([] : List Int) ∧ Below w.heap.size w w' := by
  go_enter Tryd.func77, Tryd.ntmps77
  go_wp2_with ((with_reducible refine gate_builtin (b := .append) (xs := #[.tmp 20, .tmp 21]) rfl ?_); at_builtin; (refine Kd.R_append_zeros (Kd.int .u8) (w0 := w) w.heap.size rfl (.tmp 20) (.tmp 21) 44 3 5 (.int .u8 0) 1 rfl Tryd.underlying44 Tryd.underlying3 info5 rfl (by decide) (by omega) _ [] 0 n (fun _ => True) rfl rfl ?gZ (fun _ _ => trivial) ?gR ?gP (Below.refl _ _) (Nat.le_refl _) ?gL ?_; (case gZ => rfl); (case gR => exact Kd.R_nil _ _ _ _ _); (case gP => omega); (case gL => simp; omega); intro v138 w6 ho hb hg hat; clear hg hat; obtain ⟨A138, c138, e138, hA138, _⟩ := Kd.R_reads ho; subst e138; have hl138 : ([] ++ List.replicate n.toNat 0 : List Int).length = n.toNat := (by simp); have HO := Aside0.mk (Kd.R_take (m := 0) ho (by omega)); have HB := Aside0.mk hb; have hc138 := cut_to (P := Tryd.prog) 44 5 .i64 Tryd.underlying44 (info_parts info5).choose_spec.1 A138 ([] ++ List.replicate n.toNat 0 : List Int).length c138 0 (by omega) (by omega) hA138; clear ho hb hA138))
  go_ret
  exact ⟨_, rfl, by simpa using HO.out, HB.out⟩

theorem grow_nil (n : Int) (w : World) (h0 : 0 ≤ n) (hn : n ≤ 140737488355328) :
    Calls Tryd.prog 77 #[.slice none 0 0, .int .i64 n] w fun e w' => ∃ v0_ : Value, e = .returned v0_ ∧ Kd.R (Kd.int .u8) 5 w' w.heap.size (fun _ => True) v0_ ([] : List Int) ∧ Below w.heap.size w w' := by
  rcases Int.lt_or_eq_of_le h0 with h | h
  · exact grow_pos n w h hn
  · subst h; exact grow_zero w
end Go.Proofs.YtfijlaahifeimaaDoor.PS
