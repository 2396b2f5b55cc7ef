/- The text of a wrapped error that errors.New made; errors.New. -/
import Derived.Test.YtcheifegfigegaaDoorHPAs
import Derived.Test.YtcheifegfigegaaDoorHText
namespace Go.Proofs.YtcheifegfigegaaDoor.PE
open Go.RowKit Go.Extern.Stop Go.Stop Go.Extern Go.Proofs.YtcheifegfigegaaDoorW.PrintWords Go.Proofs.YtcheifegfigegaaDoorW.PrintLast Go.Proofs.YtcheifegfigegaaDoorW.PrintMore
set_option linter.unusedVariables false
set_option linter.unusedSimpArgs false
theorem methodErrQ (x : Addr) (w : World) : (Go.method 230 64 (.pointer (some x)) "Error").run Tryd.prog w = .ok (66, .pointer (some x)) w := by kernel_rfl
set_option maxHeartbeats 4000000 in
theorem newQ (s : ByteArray) (w : World) :
    Calls Tryd.prog 20 #[.string s] w fun e w' => e = .returned (.iface 64 (.pointer (some ⟨w.heap.size, 0, none⟩))) ∧ w'.heap[w.heap.size]? = some (.cells #[.string s] 66 (0, 0)) ∧ Below w.heap.size w w' := by
  go_enter Tryd.func20, Tryd.ntmps20
  go_wp2
  go_ret
  exact ⟨rfl, heap_new _ _, below_alloc (Below.refl _ _) _⟩
set_option maxHeartbeats 4000000 in
theorem errQ (s : ByteArray) (b : Nat) (w : World) (hb : w.heap[b]? = some (.cells #[.string s] 66 (0, 0))) :
    Calls Tryd.prog 66 #[.pointer (some ⟨b, 0, none⟩)] w fun e w' => e = .returned (.string s) ∧ Below w.heap.size w w' := by
  have h0 : w.cell? ⟨b, 0, none⟩ = some (.string s) := cell_of_heap hb 0
  clear hb
  go_enter Tryd.func66, Tryd.ntmps66
  go_wp2
  go_ret
  exact ⟨rfl, by first | exact Below.refl _ _ | exact below_drew (Below.refl _ _)⟩
set_option maxHeartbeats 4000000 in
set_option maxRecDepth 100000 in
theorem Err_step64 (T s : ByteArray) (g : Nat) (h : Nat) (w : World) (hg : w.heap[g]? = some (.cells #[.string s, .iface 64 (.pointer (some ⟨h, 0, none⟩))] 48 (0, 0))) (hs : s.size + 2 + T.size ≤ 9223372036854775807)
    (hin : ∀ W, Below w.heap.size w W → Calls Tryd.prog 66 #[.pointer (some ⟨h, 0, none⟩)] W fun e w' => e = .returned (.string T) ∧ Below W.heap.size W w') :
    Calls Tryd.prog 61 #[.pointer (some ⟨g, 0, none⟩)] w fun e w' => e = .returned (.string (s ++ ⟨#[58, 32]⟩ ++ T)) ∧ Below w.heap.size w w' := by
  have HG := Aside0.mk hg
  have HIN := Aside0.mk hin
  have hm := methodErrQ
  have hl1 : ¬ 9223372036854775807 < s.size + 2 := by omega
  have hl2 : ¬ 9223372036854775807 < s.size + 2 + T.size := by omega
  clear hg hin hs
  go_enter Tryd.func61, Tryd.ntmps61
  go_upto_region 1 with fail
  refine wp_region_held_drew (S := (fun W => W.cell? ⟨g, 0, none⟩ = some (.string s) ∧ W.cell? ⟨g, 1, none⟩ = some (.iface 64 (.pointer (some ⟨h, 0, none⟩))))) (by kernel_rfl) ?_ (fun hHeld => ?_)
  · exact ⟨cell_of_heap HG.out 0, cell_of_heap HG.out 1⟩
  refine wpAnyH_take (i := 0) (oi := { dst := some 3, op := Go.Op.move (Go.Operand.tmp 0), type := 45, pos := "fault.go:17", after := #[], guard := none }) (v := ?vz0) rfl (by kernel_rfl) (by kernel_rfl) (by kernel_rfl) (fun _ _ _ h => h) (Or.inl ⟨by rfl, ?yz0⟩) (by assumption) ?rz0
  case yz0 => (((intro w hSw; (try dsimp only at hSw); go_simp) <;> with_reducible rfl))
  try simp only [Act.put, List.setIfInBounds_toArray, List.set_cons_zero, List.set_cons_succ]
  refine wpAnyH_take (i := 1) (oi := { dst := some 4, op := Go.Op.nilCheck (Go.Operand.tmp 3), type := 0, pos := "fault.go:17", after := #[{ on := 0, ground := Go.Ground.data }], guard := none }) (v := ?vz1) rfl (by kernel_rfl) (by kernel_rfl) (by kernel_rfl) (fun _ _ _ h => h) (Or.inl ⟨by rfl, ?yz1⟩) (by assumption) ?rz1
  case yz1 => (((intro w hSw; (try dsimp only at hSw); go_simp) <;> with_reducible rfl))
  try simp only [Act.put, List.setIfInBounds_toArray, List.set_cons_zero, List.set_cons_succ]
  refine wpAnyH_take (i := 2) (oi := { dst := some 5, op := Go.Op.fieldAddr 48 (Go.Operand.tmp 4) 0, type := 0, pos := "fault.go:17", after := #[{ on := 1, ground := Go.Ground.data }], guard := none }) (v := ?vz2) rfl (by kernel_rfl) (by kernel_rfl) (by kernel_rfl) (fun _ _ _ h => h) (Or.inl ⟨by rfl, ?yz2⟩) (by assumption) ?rz2
  case yz2 => (((intro w hSw; (try dsimp only at hSw); go_simp) <;> with_reducible rfl))
  try simp only [Act.put, List.setIfInBounds_toArray, List.set_cons_zero, List.set_cons_succ]
  refine wpAnyH_take (i := 3) (oi := { dst := some 6, op := Go.Op.load 9 (Go.Operand.tmp 5), type := 9, pos := "fault.go:17", after := #[{ on := 2, ground := Go.Ground.data }], guard := none }) (v := ?vz3) rfl (by kernel_rfl) (by kernel_rfl) (by kernel_rfl) (fun _ _ _ h => h) (Or.inl ⟨by rfl, ?yz3⟩) (by assumption) ?rz3
  case yz3 => (((intro w hSw; (try dsimp only at hSw); go_simp) <;> with_reducible rfl))
  try simp only [Act.put, List.setIfInBounds_toArray, List.set_cons_zero, List.set_cons_succ]
  refine wpAnyH_take (i := 4) (oi := { dst := some 7, op := Go.Op.binOp Go.BinOp.add 9 (Go.Operand.tmp 6) (Go.Operand.const (Go.Value.string { data := #[58, 32] })) 9, type := 9, pos := "fault.go:17", after := #[{ on := 3, ground := Go.Ground.data }], guard := none }) (v := ?vz4) rfl (by kernel_rfl) (by kernel_rfl) (by kernel_rfl) (fun _ _ _ h => h) (Or.inl ⟨by rfl, ?yz4⟩) (by assumption) ?rz4
  case yz4 => (((intro w hSw; (try dsimp only at hSw); go_simp) <;> with_reducible rfl))
  try simp only [Act.put, List.setIfInBounds_toArray, List.set_cons_zero, List.set_cons_succ]
  refine wpAnyH_take (i := 5) (oi := { dst := some 8, op := Go.Op.move (Go.Operand.tmp 0), type := 45, pos := "fault.go:17", after := #[], guard := none }) (v := ?vz5) rfl (by kernel_rfl) (by kernel_rfl) (by kernel_rfl) (fun _ _ _ h => h) (Or.inl ⟨by rfl, ?yz5⟩) (by assumption) ?rz5
  case yz5 => (((intro w hSw; (try dsimp only at hSw); go_simp) <;> with_reducible rfl))
  try simp only [Act.put, List.setIfInBounds_toArray, List.set_cons_zero, List.set_cons_succ]
  refine wpAnyH_take (i := 6) (oi := { dst := some 9, op := Go.Op.nilCheck (Go.Operand.tmp 8), type := 0, pos := "fault.go:17", after := #[{ on := 5, ground := Go.Ground.data }], guard := none }) (v := ?vz6) rfl (by kernel_rfl) (by kernel_rfl) (by kernel_rfl) (fun _ _ _ h => h) (Or.inl ⟨by rfl, ?yz6⟩) (by assumption) ?rz6
  case yz6 => (((intro w hSw; (try dsimp only at hSw); go_simp) <;> with_reducible rfl))
  try simp only [Act.put, List.setIfInBounds_toArray, List.set_cons_zero, List.set_cons_succ]
  refine wpAnyH_take (i := 7) (oi := { dst := some 10, op := Go.Op.fieldAddr 48 (Go.Operand.tmp 9) 1, type := 0, pos := "fault.go:17", after := #[{ on := 6, ground := Go.Ground.data }], guard := none }) (v := ?vz7) rfl (by kernel_rfl) (by kernel_rfl) (by kernel_rfl) (fun _ _ _ h => h) (Or.inl ⟨by rfl, ?yz7⟩) (by assumption) ?rz7
  case yz7 => (((intro w hSw; (try dsimp only at hSw); go_simp) <;> with_reducible rfl))
  try simp only [Act.put, List.setIfInBounds_toArray, List.set_cons_zero, List.set_cons_succ]
  refine wpAnyH_take (i := 8) (oi := { dst := some 11, op := Go.Op.load 26 (Go.Operand.tmp 10), type := 26, pos := "fault.go:17", after := #[{ on := 7, ground := Go.Ground.data }], guard := none }) (v := ?vz8) rfl (by kernel_rfl) (by kernel_rfl) (by kernel_rfl) (fun _ _ _ h => h) (Or.inl ⟨by rfl, ?yz8⟩) (by assumption) ?rz8
  case yz8 => (((intro w hSw; (try dsimp only at hSw); go_simp) <;> with_reducible rfl))
  try simp only [Act.put, List.setIfInBounds_toArray, List.set_cons_zero, List.set_cons_succ]
  refine wpAnyH_ready (rs := [9]) (by kernel_rfl) (by simp) ?_
  refine AllReadyH.cons (o := { dst := some 12, op := Go.Op.call { callee := Go.Callee.invoke (Go.Operand.tmp 11) "Error", args := #[], argTypes := #[] }, type := 9, pos := "fault.go:17", after := #[{ on := 8, ground := Go.Ground.data }], guard := none }) rfl (fun K hK => ?kz9) AllReadyH.nil
  go_simp
  refine (HIN.out _ (below_drew (Below.refl _ _))).mono ?_
  rintro e w5 ⟨rfl, hb⟩
  have B5 : Aside0 (Below w.heap.size w w5) := btrans ⟨below_drew (Below.refl _ _)⟩ ⟨hb⟩
  clear hb
  go_simp
  refine hK.out _ _ ?_ (fun hHeld => ?_)
  · exact ⟨cell_of_heap (heap_below B5 HG.out) 0, cell_of_heap (heap_below B5 HG.out) 1⟩
  clear hK K
  try simp only [Act.put, List.setIfInBounds_toArray, List.set_cons_zero, List.set_cons_succ]
  refine wpAnyH_take (i := 10) (oi := { dst := some 13, op := Go.Op.binOp Go.BinOp.add 9 (Go.Operand.tmp 7) (Go.Operand.tmp 12) 9, type := 9, pos := "fault.go:17", after := #[{ on := 4, ground := Go.Ground.data }, { on := 9, ground := Go.Ground.data }], guard := none }) (v := ?vz10) rfl (by kernel_rfl) (by kernel_rfl) (by kernel_rfl) (fun _ _ _ h => h) (Or.inl ⟨by rfl, ?yz10⟩) (by assumption) ?rz10
  case yz10 => (((intro w hSw; (try dsimp only at hSw); go_simp) <;> with_reducible rfl))
  try simp only [Act.put, List.setIfInBounds_toArray, List.set_cons_zero, List.set_cons_succ]
  refine wpAnyH_take (i := 11) (oi := { dst := some 2, op := Go.Op.assign (Go.Operand.tmp 13), type := 9, pos := "fault.go:17", after := #[{ on := 10, ground := Go.Ground.data }, { on := 9, ground := Go.Ground.chain }, { on := 0, ground := Go.Ground.phase }, { on := 1, ground := Go.Ground.phase }, { on := 2, ground := Go.Ground.phase }, { on := 3, ground := Go.Ground.phase }, { on := 4, ground := Go.Ground.phase }, { on := 5, ground := Go.Ground.phase }, { on := 6, ground := Go.Ground.phase }, { on := 7, ground := Go.Ground.phase }, { on := 8, ground := Go.Ground.phase }, { on := 9, ground := Go.Ground.phase }, { on := 10, ground := Go.Ground.phase }], guard := none }) (v := ?vz11) rfl (by kernel_rfl) (by kernel_rfl) (by kernel_rfl) (fun _ _ _ h => h) (Or.inl ⟨by rfl, ?yz11⟩) (by assumption) ?rz11
  case yz11 => (((intro w hSw; (try dsimp only at hSw); go_simp) <;> with_reducible rfl))
  try simp only [Act.put, List.setIfInBounds_toArray, List.set_cons_zero, List.set_cons_succ]
  refine wpAnyH_done (by kernel_rfl) ?_ _
  go_wp2_with fail
  go_ret
  exact ⟨rfl, B5.out⟩
end Go.Proofs.YtcheifegfigegaaDoor.PE
