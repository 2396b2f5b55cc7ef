/- The texts of errors: of the number 3, and of an error that came through places. -/
import Derived.Test.YtcheifegfigegaaDoorHWrap
namespace Go.Proofs.YtcheifegfigegaaDoor.PE
open Go.RowKit Go.Extern.Stop Go.Stop Go.Extern Go.Proofs.YtcheifegfigegaaDoorW.PrintWords Go.Proofs.YtcheifegfigegaaDoorW.PrintLast Go.Proofs.YtcheifegfigegaaDoorW.PrintMore
set_option linter.unusedVariables false
set_option linter.unusedSimpArgs false
theorem methodErrE (c : Int) (w : World) : (Go.method 230 24 (.int .i64 c) "Error").run Tryd.prog w = .ok (19, .int .i64 c) w := by kernel_rfl
theorem methodErrS (x : Addr) (w : World) : (Go.method 230 45 (.pointer (some x)) "Error").run Tryd.prog w = .ok (61, .pointer (some x)) w := by kernel_rfl
set_option maxHeartbeats 4000000 in
theorem small3 (w : World) : Calls Tryd.prog 33 #[.int .i64 3] w fun e w' => e = .returned (.string ⟨#[51]⟩) ∧ w' = w := by
  go_enter Tryd.func33, Tryd.ntmps33
  go_wp2
  go_ret
  exact ⟨rfl, rfl⟩
set_option maxHeartbeats 4000000 in
theorem format3 (w : World) : Calls Tryd.prog 32 #[.int .i64 3, .int .i64 10] w fun e w' => e = .returned (.string ⟨#[51]⟩) ∧ w' = w := by
  go_enter Tryd.func32, Tryd.ntmps32
  go_wp2_with fail
  refine (small3 w).mono ?_
  rintro e w' ⟨rfl, rfl⟩
  go_wp2_with fail
  go_ret
  exact ⟨rfl, rfl⟩
set_option maxHeartbeats 4000000 in
theorem itoaI3 (w : World) : Calls Tryd.prog 31 #[.int .i64 3] w fun e w' => e = .returned (.string ⟨#[51]⟩) ∧ w' = w := by
  go_enter Tryd.func31, Tryd.ntmps31
  go_wp2_with fail
  refine (format3 w).mono ?_
  rintro e w' ⟨rfl, rfl⟩
  go_wp2_with fail
  go_ret
  exact ⟨rfl, rfl⟩
set_option maxHeartbeats 4000000 in
theorem itoa3 (w : World) : Calls Tryd.prog 28 #[.int .i64 3] w fun e w' => e = .returned (.string ⟨#[51]⟩) ∧ w' = w := by
  go_enter Tryd.func28, Tryd.ntmps28
  go_wp2_with fail
  refine (itoaI3 w).mono ?_
  rintro e w' ⟨rfl, rfl⟩
  go_wp2_with fail
  go_ret
  exact ⟨rfl, rfl⟩
set_option maxHeartbeats 4000000 in
theorem errno3 (w : World) : Calls Tryd.prog 19 #[.int .i64 3] w fun e w' => e = .returned (.string ⟨#[101, 114, 114, 111, 114, 32, 51]⟩) ∧ w' = w := by
  go_enter Tryd.func19, Tryd.ntmps19
  go_wp2_with fail
  refine (itoa3 w).mono ?_
  rintro e w' ⟨rfl, rfl⟩
  go_wp2_with fail
  go_ret
  exact ⟨rfl, rfl⟩
set_option maxHeartbeats 4000000 in
set_option maxRecDepth 100000 in
theorem Err_step24 (T s : ByteArray) (g : Nat) (c : Int) (w : World) (hg : w.heap[g]? = some (.cells #[.string s, .iface 24 (.int .i64 c)] 48 (0, 0))) (hs : s.size + 2 + T.size ≤ 9223372036854775807)
    (hin : ∀ W, Below w.heap.size w W → Calls Tryd.prog 19 #[.int .i64 c] W fun e w' => e = .returned (.string T) ∧ Below W.heap.size W w') :
    Calls Tryd.prog 61 #[.pointer (some ⟨g, 0, none⟩)] w fun e w' => e = .returned (.string (s ++ ⟨#[58, 32]⟩ ++ T)) ∧ Below w.heap.size w w' := by
  have HG := Aside0.mk hg
  have HIN := Aside0.mk hin
  have hm := methodErrE
  have hl1 : ¬ 9223372036854775807 < s.size + 2 := by omega
  have hl2 : ¬ 9223372036854775807 < s.size + 2 + T.size := by omega
  clear hg hin hs
  go_enter Tryd.func61, Tryd.ntmps61
  go_upto_region 1 with fail
  refine wp_region_held_drew (S := (fun W => W.cell? ⟨g, 0, none⟩ = some (.string s) ∧ W.cell? ⟨g, 1, none⟩ = some (.iface 24 (.int .i64 c)))) (by kernel_rfl) ?_ (fun hHeld => ?_)
  · exact ⟨cell_of_heap HG.out 0, cell_of_heap HG.out 1⟩
  refine wpAnyH_take (i := 0) (oi := { dst := some 3, op := Go.Op.move (Go.Operand.tmp 0), type := 45, pos := "fault.go:17", after := #[], guard := none }) (v := ?vz0) rfl (by kernel_rfl) (by kernel_rfl) (by kernel_rfl) (fun _ _ _ h => h) (Or.inl ⟨by rfl, ?yz0⟩) (by assumption) ?rz0
  case yz0 => (((intro w hSw; (try dsimp only at hSw); go_simp) <;> with_reducible rfl))
  try simp only [Act.put, List.setIfInBounds_toArray, List.set_cons_zero, List.set_cons_succ]
  refine wpAnyH_take (i := 1) (oi := { dst := some 4, op := Go.Op.nilCheck (Go.Operand.tmp 3), type := 0, pos := "fault.go:17", after := #[{ on := 0, ground := Go.Ground.data }], guard := none }) (v := ?vz1) rfl (by kernel_rfl) (by kernel_rfl) (by kernel_rfl) (fun _ _ _ h => h) (Or.inl ⟨by rfl, ?yz1⟩) (by assumption) ?rz1
  case yz1 => (((intro w hSw; (try dsimp only at hSw); go_simp) <;> with_reducible rfl))
  try simp only [Act.put, List.setIfInBounds_toArray, List.set_cons_zero, List.set_cons_succ]
  refine wpAnyH_take (i := 2) (oi := { dst := some 5, op := Go.Op.fieldAddr 48 (Go.Operand.tmp 4) 0, type := 0, pos := "fault.go:17", after := #[{ on := 1, ground := Go.Ground.data }], guard := none }) (v := ?vz2) rfl (by kernel_rfl) (by kernel_rfl) (by kernel_rfl) (fun _ _ _ h => h) (Or.inl ⟨by rfl, ?yz2⟩) (by assumption) ?rz2
  case yz2 => (((intro w hSw; (try dsimp only at hSw); go_simp) <;> with_reducible rfl))
  try simp only [Act.put, List.setIfInBounds_toArray, List.set_cons_zero, List.set_cons_succ]
  refine wpAnyH_take (i := 3) (oi := { dst := some 6, op := Go.Op.load 9 (Go.Operand.tmp 5), type := 9, pos := "fault.go:17", after := #[{ on := 2, ground := Go.Ground.data }], guard := none }) (v := ?vz3) rfl (by kernel_rfl) (by kernel_rfl) (by kernel_rfl) (fun _ _ _ h => h) (Or.inl ⟨by rfl, ?yz3⟩) (by assumption) ?rz3
  case yz3 => (((intro w hSw; (try dsimp only at hSw); go_simp) <;> with_reducible rfl))
  try simp only [Act.put, List.setIfInBounds_toArray, List.set_cons_zero, List.set_cons_succ]
  refine wpAnyH_take (i := 4) (oi := { dst := some 7, op := Go.Op.binOp Go.BinOp.add 9 (Go.Operand.tmp 6) (Go.Operand.const (Go.Value.string { data := #[58, 32] })) 9, type := 9, pos := "fault.go:17", after := #[{ on := 3, ground := Go.Ground.data }], guard := none }) (v := ?vz4) rfl (by kernel_rfl) (by kernel_rfl) (by kernel_rfl) (fun _ _ _ h => h) (Or.inl ⟨by rfl, ?yz4⟩) (by assumption) ?rz4
  case yz4 => (((intro w hSw; (try dsimp only at hSw); go_simp) <;> with_reducible rfl))
  try simp only [Act.put, List.setIfInBounds_toArray, List.set_cons_zero, List.set_cons_succ]
  refine wpAnyH_take (i := 5) (oi := { dst := some 8, op := Go.Op.move (Go.Operand.tmp 0), type := 45, pos := "fault.go:17", after := #[], guard := none }) (v := ?vz5) rfl (by kernel_rfl) (by kernel_rfl) (by kernel_rfl) (fun _ _ _ h => h) (Or.inl ⟨by rfl, ?yz5⟩) (by assumption) ?rz5
  case yz5 => (((intro w hSw; (try dsimp only at hSw); go_simp) <;> with_reducible rfl))
  try simp only [Act.put, List.setIfInBounds_toArray, List.set_cons_zero, List.set_cons_succ]
  refine wpAnyH_take (i := 6) (oi := { dst := some 9, op := Go.Op.nilCheck (Go.Operand.tmp 8), type := 0, pos := "fault.go:17", after := #[{ on := 5, ground := Go.Ground.data }], guard := none }) (v := ?vz6) rfl (by kernel_rfl) (by kernel_rfl) (by kernel_rfl) (fun _ _ _ h => h) (Or.inl ⟨by rfl, ?yz6⟩) (by assumption) ?rz6
  case yz6 => (((intro w hSw; (try dsimp only at hSw); go_simp) <;> with_reducible rfl))
  try simp only [Act.put, List.setIfInBounds_toArray, List.set_cons_zero, List.set_cons_succ]
  refine wpAnyH_take (i := 7) (oi := { dst := some 10, op := Go.Op.fieldAddr 48 (Go.Operand.tmp 9) 1, type := 0, pos := "fault.go:17", after := #[{ on := 6, ground := Go.Ground.data }], guard := none }) (v := ?vz7) rfl (by kernel_rfl) (by kernel_rfl) (by kernel_rfl) (fun _ _ _ h => h) (Or.inl ⟨by rfl, ?yz7⟩) (by assumption) ?rz7
  case yz7 => (((intro w hSw; (try dsimp only at hSw); go_simp) <;> with_reducible rfl))
  try simp only [Act.put, List.setIfInBounds_toArray, List.set_cons_zero, List.set_cons_succ]
  refine wpAnyH_take (i := 8) (oi := { dst := some 11, op := Go.Op.load 26 (Go.Operand.tmp 10), type := 26, pos := "fault.go:17", after := #[{ on := 7, ground := Go.Ground.data }], guard := none }) (v := ?vz8) rfl (by kernel_rfl) (by kernel_rfl) (by kernel_rfl) (fun _ _ _ h => h) (Or.inl ⟨by rfl, ?yz8⟩) (by assumption) ?rz8
  case yz8 => (((intro w hSw; (try dsimp only at hSw); go_simp) <;> with_reducible rfl))
  try simp only [Act.put, List.setIfInBounds_toArray, List.set_cons_zero, List.set_cons_succ]
  refine wpAnyH_ready (rs := [9]) (by kernel_rfl) (by simp) ?_
  refine AllReadyH.cons (o := { dst := some 12, op := Go.Op.call { callee := Go.Callee.invoke (Go.Operand.tmp 11) "Error", args := #[], argTypes := #[] }, type := 9, pos := "fault.go:17", after := #[{ on := 8, ground := Go.Ground.data }], guard := none }) rfl (fun K hK => ?kz9) AllReadyH.nil
  go_simp
  refine (HIN.out _ (below_drew (Below.refl _ _))).mono ?_
  rintro e w5 ⟨rfl, hb⟩
  have B5 : Aside0 (Below w.heap.size w w5) := btrans ⟨below_drew (Below.refl _ _)⟩ ⟨hb⟩
  clear hb
  go_simp
  refine hK.out _ _ ?_ (fun hHeld => ?_)
  · exact ⟨cell_of_heap (heap_below B5 HG.out) 0, cell_of_heap (heap_below B5 HG.out) 1⟩
  clear hK K
  try simp only [Act.put, List.setIfInBounds_toArray, List.set_cons_zero, List.set_cons_succ]
  refine wpAnyH_take (i := 10) (oi := { dst := some 13, op := Go.Op.binOp Go.BinOp.add 9 (Go.Operand.tmp 7) (Go.Operand.tmp 12) 9, type := 9, pos := "fault.go:17", after := #[{ on := 4, ground := Go.Ground.data }, { on := 9, ground := Go.Ground.data }], guard := none }) (v := ?vz10) rfl (by kernel_rfl) (by kernel_rfl) (by kernel_rfl) (fun _ _ _ h => h) (Or.inl ⟨by rfl, ?yz10⟩) (by assumption) ?rz10
  case yz10 => (((intro w hSw; (try dsimp only at hSw); go_simp) <;> with_reducible rfl))
  try simp only [Act.put, List.setIfInBounds_toArray, List.set_cons_zero, List.set_cons_succ]
  refine wpAnyH_take (i := 11) (oi := { dst := some 2, op := Go.Op.assign (Go.Operand.tmp 13), type := 9, pos := "fault.go:17", after := #[{ on := 10, ground := Go.Ground.data }, { on := 9, ground := Go.Ground.chain }, { on := 0, ground := Go.Ground.phase }, { on := 1, ground := Go.Ground.phase }, { on := 2, ground := Go.Ground.phase }, { on := 3, ground := Go.Ground.phase }, { on := 4, ground := Go.Ground.phase }, { on := 5, ground := Go.Ground.phase }, { on := 6, ground := Go.Ground.phase }, { on := 7, ground := Go.Ground.phase }, { on := 8, ground := Go.Ground.phase }, { on := 9, ground := Go.Ground.phase }, { on := 10, ground := Go.Ground.phase }], guard := none }) (v := ?vz11) rfl (by kernel_rfl) (by kernel_rfl) (by kernel_rfl) (fun _ _ _ h => h) (Or.inl ⟨by rfl, ?yz11⟩) (by assumption) ?rz11
  case yz11 => (((intro w hSw; (try dsimp only at hSw); go_simp) <;> with_reducible rfl))
  try simp only [Act.put, List.setIfInBounds_toArray, List.set_cons_zero, List.set_cons_succ]
  refine wpAnyH_done (by kernel_rfl) ?_ _
  go_wp2_with fail
  go_ret
  exact ⟨rfl, B5.out⟩
set_option maxHeartbeats 4000000 in
set_option maxRecDepth 100000 in
theorem Err_step45 (T s : ByteArray) (g : Nat) (h : Nat) (w : World) (hg : w.heap[g]? = some (.cells #[.string s, .iface 45 (.pointer (some ⟨h, 0, none⟩))] 48 (0, 0))) (hs : s.size + 2 + T.size ≤ 9223372036854775807)
    (hin : ∀ W, Below w.heap.size w W → Calls Tryd.prog 61 #[.pointer (some ⟨h, 0, none⟩)] W fun e w' => e = .returned (.string T) ∧ Below W.heap.size W w') :
    Calls Tryd.prog 61 #[.pointer (some ⟨g, 0, none⟩)] w fun e w' => e = .returned (.string (s ++ ⟨#[58, 32]⟩ ++ T)) ∧ Below w.heap.size w w' := by
  have HG := Aside0.mk hg
  have HIN := Aside0.mk hin
  have hm := methodErrS
  have hl1 : ¬ 9223372036854775807 < s.size + 2 := by omega
  have hl2 : ¬ 9223372036854775807 < s.size + 2 + T.size := by omega
  clear hg hin hs
  go_enter Tryd.func61, Tryd.ntmps61
  go_upto_region 1 with fail
  refine wp_region_held_drew (S := (fun W => W.cell? ⟨g, 0, none⟩ = some (.string s) ∧ W.cell? ⟨g, 1, none⟩ = some (.iface 45 (.pointer (some ⟨h, 0, none⟩))))) (by kernel_rfl) ?_ (fun hHeld => ?_)
  · exact ⟨cell_of_heap HG.out 0, cell_of_heap HG.out 1⟩
  refine wpAnyH_take (i := 0) (oi := { dst := some 3, op := Go.Op.move (Go.Operand.tmp 0), type := 45, pos := "fault.go:17", after := #[], guard := none }) (v := ?vz0) rfl (by kernel_rfl) (by kernel_rfl) (by kernel_rfl) (fun _ _ _ h => h) (Or.inl ⟨by rfl, ?yz0⟩) (by assumption) ?rz0
  case yz0 => (((intro w hSw; (try dsimp only at hSw); go_simp) <;> with_reducible rfl))
  try simp only [Act.put, List.setIfInBounds_toArray, List.set_cons_zero, List.set_cons_succ]
  refine wpAnyH_take (i := 1) (oi := { dst := some 4, op := Go.Op.nilCheck (Go.Operand.tmp 3), type := 0, pos := "fault.go:17", after := #[{ on := 0, ground := Go.Ground.data }], guard := none }) (v := ?vz1) rfl (by kernel_rfl) (by kernel_rfl) (by kernel_rfl) (fun _ _ _ h => h) (Or.inl ⟨by rfl, ?yz1⟩) (by assumption) ?rz1
  case yz1 => (((intro w hSw; (try dsimp only at hSw); go_simp) <;> with_reducible rfl))
  try simp only [Act.put, List.setIfInBounds_toArray, List.set_cons_zero, List.set_cons_succ]
  refine wpAnyH_take (i := 2) (oi := { dst := some 5, op := Go.Op.fieldAddr 48 (Go.Operand.tmp 4) 0, type := 0, pos := "fault.go:17", after := #[{ on := 1, ground := Go.Ground.data }], guard := none }) (v := ?vz2) rfl (by kernel_rfl) (by kernel_rfl) (by kernel_rfl) (fun _ _ _ h => h) (Or.inl ⟨by rfl, ?yz2⟩) (by assumption) ?rz2
  case yz2 => (((intro w hSw; (try dsimp only at hSw); go_simp) <;> with_reducible rfl))
  try simp only [Act.put, List.setIfInBounds_toArray, List.set_cons_zero, List.set_cons_succ]
  refine wpAnyH_take (i := 3) (oi := { dst := some 6, op := Go.Op.load 9 (Go.Operand.tmp 5), type := 9, pos := "fault.go:17", after := #[{ on := 2, ground := Go.Ground.data }], guard := none }) (v := ?vz3) rfl (by kernel_rfl) (by kernel_rfl) (by kernel_rfl) (fun _ _ _ h => h) (Or.inl ⟨by rfl, ?yz3⟩) (by assumption) ?rz3
  case yz3 => (((intro w hSw; (try dsimp only at hSw); go_simp) <;> with_reducible rfl))
  try simp only [Act.put, List.setIfInBounds_toArray, List.set_cons_zero, List.set_cons_succ]
  refine wpAnyH_take (i := 4) (oi := { dst := some 7, op := Go.Op.binOp Go.BinOp.add 9 (Go.Operand.tmp 6) (Go.Operand.const (Go.Value.string { data := #[58, 32] })) 9, type := 9, pos := "fault.go:17", after := #[{ on := 3, ground := Go.Ground.data }], guard := none }) (v := ?vz4) rfl (by kernel_rfl) (by kernel_rfl) (by kernel_rfl) (fun _ _ _ h => h) (Or.inl ⟨by rfl, ?yz4⟩) (by assumption) ?rz4
  case yz4 => (((intro w hSw; (try dsimp only at hSw); go_simp) <;> with_reducible rfl))
  try simp only [Act.put, List.setIfInBounds_toArray, List.set_cons_zero, List.set_cons_succ]
  refine wpAnyH_take (i := 5) (oi := { dst := some 8, op := Go.Op.move (Go.Operand.tmp 0), type := 45, pos := "fault.go:17", after := #[], guard := none }) (v := ?vz5) rfl (by kernel_rfl) (by kernel_rfl) (by kernel_rfl) (fun _ _ _ h => h) (Or.inl ⟨by rfl, ?yz5⟩) (by assumption) ?rz5
  case yz5 => (((intro w hSw; (try dsimp only at hSw); go_simp) <;> with_reducible rfl))
  try simp only [Act.put, List.setIfInBounds_toArray, List.set_cons_zero, List.set_cons_succ]
  refine wpAnyH_take (i := 6) (oi := { dst := some 9, op := Go.Op.nilCheck (Go.Operand.tmp 8), type := 0, pos := "fault.go:17", after := #[{ on := 5, ground := Go.Ground.data }], guard := none }) (v := ?vz6) rfl (by kernel_rfl) (by kernel_rfl) (by kernel_rfl) (fun _ _ _ h => h) (Or.inl ⟨by rfl, ?yz6⟩) (by assumption) ?rz6
  case yz6 => (((intro w hSw; (try dsimp only at hSw); go_simp) <;> with_reducible rfl))
  try simp only [Act.put, List.setIfInBounds_toArray, List.set_cons_zero, List.set_cons_succ]
  refine wpAnyH_take (i := 7) (oi := { dst := some 10, op := Go.Op.fieldAddr 48 (Go.Operand.tmp 9) 1, type := 0, pos := "fault.go:17", after := #[{ on := 6, ground := Go.Ground.data }], guard := none }) (v := ?vz7) rfl (by kernel_rfl) (by kernel_rfl) (by kernel_rfl) (fun _ _ _ h => h) (Or.inl ⟨by rfl, ?yz7⟩) (by assumption) ?rz7
  case yz7 => (((intro w hSw; (try dsimp only at hSw); go_simp) <;> with_reducible rfl))
  try simp only [Act.put, List.setIfInBounds_toArray, List.set_cons_zero, List.set_cons_succ]
  refine wpAnyH_take (i := 8) (oi := { dst := some 11, op := Go.Op.load 26 (Go.Operand.tmp 10), type := 26, pos := "fault.go:17", after := #[{ on := 7, ground := Go.Ground.data }], guard := none }) (v := ?vz8) rfl (by kernel_rfl) (by kernel_rfl) (by kernel_rfl) (fun _ _ _ h => h) (Or.inl ⟨by rfl, ?yz8⟩) (by assumption) ?rz8
  case yz8 => (((intro w hSw; (try dsimp only at hSw); go_simp) <;> with_reducible rfl))
  try simp only [Act.put, List.setIfInBounds_toArray, List.set_cons_zero, List.set_cons_succ]
  refine wpAnyH_ready (rs := [9]) (by kernel_rfl) (by simp) ?_
  refine AllReadyH.cons (o := { dst := some 12, op := Go.Op.call { callee := Go.Callee.invoke (Go.Operand.tmp 11) "Error", args := #[], argTypes := #[] }, type := 9, pos := "fault.go:17", after := #[{ on := 8, ground := Go.Ground.data }], guard := none }) rfl (fun K hK => ?kz9) AllReadyH.nil
  go_simp
  refine (HIN.out _ (below_drew (Below.refl _ _))).mono ?_
  rintro e w5 ⟨rfl, hb⟩
  have B5 : Aside0 (Below w.heap.size w w5) := btrans ⟨below_drew (Below.refl _ _)⟩ ⟨hb⟩
  clear hb
  go_simp
  refine hK.out _ _ ?_ (fun hHeld => ?_)
  · exact ⟨cell_of_heap (heap_below B5 HG.out) 0, cell_of_heap (heap_below B5 HG.out) 1⟩
  clear hK K
  try simp only [Act.put, List.setIfInBounds_toArray, List.set_cons_zero, List.set_cons_succ]
  refine wpAnyH_take (i := 10) (oi := { dst := some 13, op := Go.Op.binOp Go.BinOp.add 9 (Go.Operand.tmp 7) (Go.Operand.tmp 12) 9, type := 9, pos := "fault.go:17", after := #[{ on := 4, ground := Go.Ground.data }, { on := 9, ground := Go.Ground.data }], guard := none }) (v := ?vz10) rfl (by kernel_rfl) (by kernel_rfl) (by kernel_rfl) (fun _ _ _ h => h) (Or.inl ⟨by rfl, ?yz10⟩) (by assumption) ?rz10
  case yz10 => (((intro w hSw; (try dsimp only at hSw); go_simp) <;> with_reducible rfl))
  try simp only [Act.put, List.setIfInBounds_toArray, List.set_cons_zero, List.set_cons_succ]
  refine wpAnyH_take (i := 11) (oi := { dst := some 2, op := Go.Op.assign (Go.Operand.tmp 13), type := 9, pos := "fault.go:17", after := #[{ on := 10, ground := Go.Ground.data }, { on := 9, ground := Go.Ground.chain }, { on := 0, ground := Go.Ground.phase }, { on := 1, ground := Go.Ground.phase }, { on := 2, ground := Go.Ground.phase }, { on := 3, ground := Go.Ground.phase }, { on := 4, ground := Go.Ground.phase }, { on := 5, ground := Go.Ground.phase }, { on := 6, ground := Go.Ground.phase }, { on := 7, ground := Go.Ground.phase }, { on := 8, ground := Go.Ground.phase }, { on := 9, ground := Go.Ground.phase }, { on := 10, ground := Go.Ground.phase }], guard := none }) (v := ?vz11) rfl (by kernel_rfl) (by kernel_rfl) (by kernel_rfl) (fun _ _ _ h => h) (Or.inl ⟨by rfl, ?yz11⟩) (by assumption) ?rz11
  case yz11 => (((intro w hSw; (try dsimp only at hSw); go_simp) <;> with_reducible rfl))
  try simp only [Act.put, List.setIfInBounds_toArray, List.set_cons_zero, List.set_cons_succ]
  refine wpAnyH_done (by kernel_rfl) ?_ _
  go_wp2_with fail
  go_ret
  exact ⟨rfl, B5.out⟩
/-- The text of an error that came through places, its end told. -/
def textOf (T : ByteArray) : List ByteArray → ByteArray
  | [] => T
  | s :: p => s ++ ⟨#[58, 32]⟩ ++ textOf T p
theorem textOf_size (T : ByteArray) (B : Nat) : ∀ p : List ByteArray, (∀ s ∈ p, s.size ≤ B) → (textOf T p).size ≤ T.size + p.length * (B + 2)
  | [], _ => by simp [textOf]
  | s :: p, h => by
    have h1 := textOf_size T B p (fun x hx => h x (List.mem_cons_of_mem _ hx))
    have h2 := h s (List.mem_cons_self)
    have e : (s ++ ⟨#[58, 32]⟩ ++ textOf T p : ByteArray).size = s.size + 2 + (textOf T p).size := by rw [ByteArray.size_append, ByteArray.size_append]; rfl
    show (s ++ ⟨#[58, 32]⟩ ++ textOf T p : ByteArray).size ≤ _
    rw [e, List.length_cons, Nat.add_mul]
    omega
/-- An error's text: of a chain that is not bare. -/
theorem Err_calls (T : ByteArray) (c : Int) (B : Nat) (hT : ∀ W, Calls Tryd.prog 19 #[.int .i64 c] W fun e w' => e = .returned (.string T) ∧ Below W.heap.size W w') (hTs : T.size ≤ 1000000) (hB : B ≤ 140737488355328) : ∀ (p : List ByteArray) (s : ByteArray) (g : Nat) (v' : Value) (w : World), p.length ≤ 1000 → s.size ≤ B → (∀ x ∈ p, x.size ≤ B) → w.heap[g]? = some (.cells #[.string s, v'] 48 (0, 0)) → ErrP w c p v' →
    Calls Tryd.prog 61 #[.pointer (some ⟨g, 0, none⟩)] w fun e w' => e = .returned (.string (textOf T (s :: p))) ∧ Below w.heap.size w w'
  | [], s, g, v', w, _, hs, _, hg, hv => by
    obtain rfl : v' = .iface 24 (.int .i64 c) := hv
    exact Err_step24 T s g c w hg (by omega) (fun W _ => hT W)
  | s' :: p, s, g, v', w, hl, hs, hp, hg, hv => by
    obtain ⟨h, v'', rfl, hh, hv'⟩ := hv
    have hz := textOf_size T B (s' :: p) hp
    simp only [List.length_cons] at hl hz
    have hz2 : (p.length + 1) * (B + 2) ≤ 1000 * (140737488355328 + 2) := Nat.mul_le_mul hl (by omega)
    refine Err_step45 (textOf T (s' :: p)) s g h w hg (by omega) (fun W hW => ?_)
    exact Err_calls T c B hT hTs hB p s' h v'' W (by omega) (hp s' List.mem_cons_self) (fun x hx => hp x (List.mem_cons_of_mem _ hx)) (heap_below ⟨hW⟩ hh) (hv'.below ⟨hW⟩)
end Go.Proofs.YtcheifegfigegaaDoor.PE
