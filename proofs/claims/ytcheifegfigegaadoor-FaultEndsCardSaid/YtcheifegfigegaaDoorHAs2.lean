/- Errors: errors.As at a target of the type of steps; errors.Is against a number. -/
import Derived.Test.YtcheifegfigegaaDoorHErrFacts2
import Derived.Test.YtcheifegfigegaaDoorHWrap
namespace Go.Proofs.YtcheifegfigegaaDoor.PE
open Go.RowKit Go.Extern.Stop Go.Stop Go.Extern Go.Proofs.YtcheifegfigegaaDoorW.PrintWords Go.Proofs.YtcheifegfigegaaDoorW.PrintLast Go.Proofs.YtcheifegfigegaaDoorW.PrintMore
set_option linter.unusedVariables false
set_option linter.unusedSimpArgs false
set_option maxHeartbeats 4000000 in
set_option maxRecDepth 100000 in
theorem as2_none (c : Int) (t a : Addr) (w : World) :
    Calls Tryd.prog 27 #[.iface 24 (.int .i64 c), .iface 46 (.pointer (some t)), .agg #[.pointer (some ⟨4, 46, none⟩), .pointer (some a), .int .u64 150], .iface 68 (.agg #[.pointer (some ⟨4, 45, none⟩)])] w
      fun e w' => e = .returned (.bool false) ∧ Below w.heap.size w w' := by
  have hTO := @run_callFunc_extern Tryd.prog 22 _ ReflectliteType.typeOf Tryd.func22 (by kernel_rfl) (by kernel_rfl) (by kernel_rfl) (by kernel_rfl)
  have hAT := @run_callFunc_extern Tryd.prog 68 _ (ReflectliteType.relation "AssignableTo" ReflectliteType.assignableTo) Tryd.func68 (by kernel_rfl) (by kernel_rfl) (by kernel_rfl) (by kernel_rfl)
  have tE := typeOfE
  have mA := methodAssignableTo
  have aE := assignableE2
  have xA := assertAsE
  have xU := assertUnE
  have xV := assertUsE
  go_enter Tryd.func27, Tryd.ntmps27
  go_wp2
  go_loopg [0] 0 (fun n x W' => x = .iface 24 (.int .i64 c) ∧ Aside0 (Below (w.alloc (.cells #[.pointer (some ⟨4, 46, none⟩), .pointer (some a), .int .u64 150] 56)).heap.size (w.alloc (.cells #[.pointer (some ⟨4, 46, none⟩), .pointer (some a), .int .u64 150] 56)) W'))
  case atStart => exact ⟨rfl, ⟨Below.refl _ _⟩⟩
  case round =>
    obtain ⟨hx, HB⟩ := hrel
    have BW : Aside0 (Below w.heap.size w wr) := btrans (balloc ⟨Below.refl _ _⟩ _) HB
    have hG := heap_below HB (heap_new w (.cells #[.pointer (some ⟨4, 46, none⟩), .pointer (some a), .int .u64 150] 56))
    have c0 : wr.cell? ⟨w.heap.size, 0, none⟩ = some (.pointer (some ⟨4, 46, none⟩)) := cell_of_heap hG 0
    have c1 : wr.cell? ⟨w.heap.size, 1, none⟩ = some (.pointer (some a)) := cell_of_heap hG 1
    have c2 : wr.cell? ⟨w.heap.size, 2, none⟩ = some (.int .u64 150) := cell_of_heap hG 2
    clear hG
    subst hx
    go_wp2
    go_ret
    exact ⟨rfl, BW.out⟩
set_option maxHeartbeats 4000000 in
set_option maxRecDepth 100000 in
theorem as2_some (g : Nat) (t a : Addr) (old : Value) (w : World) (ha : w.cell? a = some (.pointer (some t))) (ht : w.cell? t = some old) (hf : w.frozen? t = false) :
    Calls Tryd.prog 27 #[.iface 45 (.pointer (some ⟨g, 0, none⟩)), .iface 46 (.pointer (some t)), .agg #[.pointer (some ⟨4, 46, none⟩), .pointer (some a), .int .u64 150], .iface 68 (.agg #[.pointer (some ⟨4, 45, none⟩)])] w
      fun e w' => e = .returned (.bool true) ∧ ∃ w1, Below w.heap.size w w1 ∧ w' = w1.setCell t (.pointer (some ⟨g, 0, none⟩)) := by
  have hTO := @run_callFunc_extern Tryd.prog 22 _ ReflectliteType.typeOf Tryd.func22 (by kernel_rfl) (by kernel_rfl) (by kernel_rfl) (by kernel_rfl)
  have hAT := @run_callFunc_extern Tryd.prog 68 _ (ReflectliteType.relation "AssignableTo" ReflectliteType.assignableTo) Tryd.func68 (by kernel_rfl) (by kernel_rfl) (by kernel_rfl) (by kernel_rfl)
  have hVE := @run_callFunc_extern Tryd.prog 29 _ (ReflectliteValue.method (ReflectliteValue.valueError "reflectlite.Value.Elem" 0) ReflectliteValue.elem) Tryd.func29 (by kernel_rfl) (by kernel_rfl) (by kernel_rfl) (by kernel_rfl)
  have hVS := @run_callFunc_extern Tryd.prog 30 _ ReflectliteValue.set Tryd.func30 (by kernel_rfl) (by kernel_rfl) (by kernel_rfl) (by kernel_rfl)
  have hVO := @run_callFunc_extern Tryd.prog 24 _ (fun args => ReflectliteValue.unpack (args.getD 0 (.tuple #[]))) Tryd.func24 (by kernel_rfl) (by kernel_rfl) (by kernel_rfl) (by kernel_rfl)
  have tS := typeOfS
  have mA := methodAssignableTo
  have aS := assignableS2
  have vE := valueOfS2
  have HA := Aside0.mk ha
  have HT := Aside0.mk ht
  have HF := Aside0.mk hf
  clear ha ht hf
  go_enter Tryd.func27, Tryd.ntmps27
  go_wp2
  go_loopg [0] 0 (fun n x W' => x = .iface 45 (.pointer (some ⟨g, 0, none⟩)) ∧ Aside0 (Below (w.alloc (.cells #[.pointer (some ⟨4, 46, none⟩), .pointer (some a), .int .u64 150] 56)).heap.size (w.alloc (.cells #[.pointer (some ⟨4, 46, none⟩), .pointer (some a), .int .u64 150] 56)) W'))
  case atStart => exact ⟨rfl, ⟨Below.refl _ _⟩⟩
  case round =>
    obtain ⟨hx, HB⟩ := hrel
    have BW : Aside0 (Below w.heap.size w wr) := btrans (balloc ⟨Below.refl _ _⟩ _) HB
    have hG := heap_below HB (heap_new w (.cells #[.pointer (some ⟨4, 46, none⟩), .pointer (some a), .int .u64 150] 56))
    have c0 : wr.cell? ⟨w.heap.size, 0, none⟩ = some (.pointer (some ⟨4, 46, none⟩)) := cell_of_heap hG 0
    have c1 : wr.cell? ⟨w.heap.size, 1, none⟩ = some (.pointer (some a)) := cell_of_heap hG 1
    have c2 : wr.cell? ⟨w.heap.size, 2, none⟩ = some (.int .u64 150) := cell_of_heap hG 2
    clear hG
    subst hx
    have eV := elemVP2 a t wr (bcellA BW HA.out)
    have htl : t.block < w.heap.size := World.block_lt_of_cell? w t HT.out
    have hts : t.block < wr.heap.size := Nat.lt_of_lt_of_le htl BW.out.size
    have eS := setS2 t ⟨wr.heap.size, 0, none⟩ ⟨g, 0, none⟩ old (wr.alloc (.cells #[.pointer (some ⟨g, 0, none⟩)] 45)) (cell_new _ _ _ 0) (by rw [World.cell?_alloc_lt _ _ t hts]; exact bcellA BW HT.out) (by rw [World.frozen?_alloc_old _ _ t (Nat.ne_of_lt hts), BW.out.frozen htl]; exact HF.out)
    clear htl hts
    go_wp2
    go_ret
    exact ⟨rfl, _, below_alloc BW.out _, rfl⟩
end Go.Proofs.YtcheifegfigegaaDoor.PE
