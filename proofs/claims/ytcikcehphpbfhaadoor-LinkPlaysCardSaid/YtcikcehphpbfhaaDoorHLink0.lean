/- link: small contracts: New, age, Tick, slices.Clone. -/
import Derived.Test.YtcikcehphpbfhaaDoorHErr
import Derived.BigQuiet
import Derived.Lib.MinMax
import Derived.Lib.SliceRun
namespace Go.Proofs.YtcikcehphpbfhaaDoor.PE
open Go.RowKit Go.Extern.Stop Go.Stop Go.Extern Go.Proofs.YtcikcehphpbfhaaDoorW.PrintWords Go.Proofs.YtcikcehphpbfhaaDoorW.PrintLast Go.Proofs.YtcikcehphpbfhaaDoorW.PrintMore
set_option linter.unusedVariables false
set_option linter.unusedSimpArgs false
/-- Cells of one channel that said nothing. -/
def zero5 : List Value := [.int .i64 0, .int .i64 0, .slice none 0 0, .int .i64 0, .bool false]
def zero57 : Array Value := (([.int .i64 0, .int .i64 0] : List Value) ++ (List.replicate 16 zero5).flatten).toArray
theorem zeroes57 (w : World) : Sem.run Tryd.prog (zeroValue 57) w = .ok (.agg zero57) w := by kernel_rfl
set_option maxHeartbeats 4000000 in
set_option maxRecDepth 100000 in
theorem new_calls (n : Int) (w : World) :
    Calls Tryd.prog 10 #[.int .i64 n] w fun e w' => e = .returned (.pointer (some ⟨w.heap.size, 0, none⟩)) ∧ w' = w.alloc (.cells (zero57.setIfInBounds 0 (.int .i64 (max 1 (min n 6000)))) 57) := by
  have z := zeroes57
  have hz : (zero57 = #[]) = False := eq_false (by decide)
  go_enter Tryd.func10, Tryd.ntmps10
  go_wp2
  go_ret
  exact ⟨rfl, rfl⟩
set_option maxHeartbeats 4000000 in
theorem age_calls (g : Nat) (F now c sq a : Int) (d : Value) (had : Bool) (w : World) (hF : w.cell? ⟨g, 0, none⟩ = some (.int .i64 F)) (hnow : w.cell? ⟨g, 1, none⟩ = some (.int .i64 now)) (h : 0 ≤ a ∧ a ≤ now ∧ now ≤ 1000000 ∧ 0 ≤ F ∧ F ≤ 6000) :
    Calls Tryd.prog 25 #[.pointer (some ⟨g, 0, none⟩), .agg #[.int .i64 c, .int .i64 sq, d, .int .i64 a, .bool had]] w fun e w' => e = .returned (.int .i64 (min (now - a) (F+1))) ∧ Below w.heap.size w w' := by
  have e2 := cell_new w #[.int .i64 c, .int .i64 sq, d, .int .i64 a, .bool had] 54 3
  have B : Aside0 (Below w.heap.size w (w.alloc (.cells #[.int .i64 c, .int .i64 sq, d, .int .i64 a, .bool had] 54))) := balloc ⟨Below.refl _ _⟩ _
  have e0 := bcellA B hF
  have e1 := bcellA B hnow
  clear hF hnow
  go_enter Tryd.func25, Tryd.ntmps25
  go_wp2
  obtain ⟨W1, hW⟩ : ∃ W1, W1 = (w.alloc (.cells #[.int .i64 c, .int .i64 sq, d, .int .i64 a, .bool had] 54)) := ⟨_, rfl⟩
  rw [← hW] at e0 e1 e2 B ⊢
  clear hW
  go_quiet (fail)
  go_wp2
  go_ret
  exact ⟨rfl, pw_below_drewN B.out _⟩
set_option maxHeartbeats 4000000 in
theorem tick_calls (g : Nat) (now : Int) (w : World) (hnow : w.cell? ⟨g, 1, none⟩ = some (.int .i64 now)) (hf : w.frozen? ⟨g, 1, none⟩ = false) (h : 0 ≤ now ∧ now ≤ 1000000) :
    Calls Tryd.prog 12 #[.pointer (some ⟨g, 0, none⟩)] w fun e w' => e = .returned (.tuple #[]) ∧ w' = w.setCell ⟨g, 1, none⟩ (.int .i64 (now+1)) := by
  have hw : wrap64 (now + 1) = now + 1 := by unfold wrap64; omega
  go_enter Tryd.func12, Tryd.ntmps12
  go_wp2
  go_end0
  exact ⟨rfl, rfl⟩
theorem info5 : Option.map (fun i => (i.zero, i.size, i.bytes)) (Tryd.prog.info? 5) = some (some (.int .u8 0), 1, 1) := by kernel_rfl
theorem R_empty (w : World) : Kd.R (Kd.int .u8) 5 (w.alloc (.cells #[] 5)) w.heap.size (fun _ => True) (.slice (some ⟨w.heap.size, 0, none⟩) 0 0) ([] : List Int) :=
  ⟨fun _ _ => trivial, OwnRow.lit (ps := []) (inner := []) w w.heap.size (Reps.none _ _) (Nat.le_refl _) (by simp)⟩
set_option maxHeartbeats 4000000 in
theorem clone_calls (A : Option Addr) (n c : Nat) (xs : List Int) (w : World) (hC : Kd.C (Kd.int .u8) w A n xs) (hn : n ≤ 140737488355328) :
    Calls Tryd.prog 26 #[.slice A n c] w fun e w' => ∃ v, e = .returned v ∧ Kd.R (Kd.int .u8) 5 w' w.heap.size (fun _ => True) v xs ∧ Below w.heap.size w w' := by
  have q : ∀ (w : World) (a : Option Addr) (n c n' c' : Nat), (Go.binOp .eql 28 (.slice a n c) (.slice none n' c')).run Tryd.prog w = .ok (.bool a.isNone) w := fun w a n c n' c' => Lib.run_eql_slice_nil w _ _ a n c n' c' Tryd.underlying28
  have info5 := info5
  cases A with
  | none =>
    have h0 : n = 0 := by
      rcases Nat.eq_zero_or_pos n with h | h
      · exact h
      · obtain ⟨ad, h, _⟩ := hC.2.2 h; exact absurd h (by simp)
    have hx : xs = [] := List.eq_nil_of_length_eq_zero (hC.1.trans h0)
    subst hx
    clear hC
    go_enter Tryd.func26, Tryd.ntmps26
    go_wp2
    go_ret
    exact ⟨_, rfl, Kd.R_nil _ _ _ _ _, Below.refl _ _⟩
  | some A =>
    have hl : xs.length = n := hC.1
    have H := Aside0.mk hC
    clear hC
    go_enter Tryd.func26, Tryd.ntmps26
    go_wp2_with ((with_reducible refine gate_builtin (b := .append) (xs := #[.tmp 5, .tmp 6]) rfl ?_); at_builtin; refine Kd.R_append_rows (Kd.int .u8) (w0 := w) w.heap.size rfl (.tmp 5) (.tmp 6) 28 5 (.int .u8 0) 1 rfl Tryd.underlying28 info5 rfl (by decide) (by omega) (.slice (some ⟨w.heap.size, 0, none⟩) 0 0) [] xs (some A) n c (fun _ => True) (fun _ => False) rfl rfl ?aO ?aR (fun _ _ h => h) (fun _ h => h.elim) (fun _ _ => trivial) ?aB ?aS ?aL ?_)
    case aO => exact R_empty w
    case aR => exact Kd.C_alloc H.out _
    case aB => exact below_alloc (Below.refl _ _) _
    case aS => simp
    case aL => simp; omega
    intro v w1 ho hb hg hat
    have HO := Aside0.mk ho
    have HB := Aside0.mk hb
    obtain ⟨A', c', rfl, _, _⟩ := Kd.R_reads ho
    clear ho hb hg hat
    go_wp2
    go_ret
    exact ⟨_, rfl, by simpa using HO.out, HB.out⟩
end Go.Proofs.YtcikcehphpbfhaaDoor.PE
