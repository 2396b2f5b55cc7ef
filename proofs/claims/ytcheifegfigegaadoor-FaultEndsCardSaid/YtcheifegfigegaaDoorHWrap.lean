/- fault.Wrap by its contracts. -/
import Derived.Test.YtcheifegfigegaaDoorHErr
namespace Go.Proofs.YtcheifegfigegaaDoor.PE
open Go.RowKit Go.Extern.Stop Go.Stop Go.Extern Go.Proofs.YtcheifegfigegaaDoorW.PrintWords Go.Proofs.YtcheifegfigegaaDoorW.PrintLast Go.Proofs.YtcheifegfigegaaDoorW.PrintMore
set_option linter.unusedVariables false
set_option linter.unusedSimpArgs false
set_option maxHeartbeats 4000000 in
theorem wrap_nil (s : ByteArray) (w : World) :
    Calls Tryd.prog 18 #[.nilIface, .string s] w fun e w' => e = .returned .nilIface ∧ w' = w := by
  go_enter Tryd.func18, Tryd.ntmps18
  go_wp2
  go_ret
  exact ⟨rfl, rfl⟩
set_option maxHeartbeats 4000000 in
theorem wrap_err (p : List ByteArray) (v : Value) (c : Int) (s : ByteArray) (w : World) (hv : ErrP w c p v) :
    Calls Tryd.prog 18 #[v, .string s] w fun e w' => ∃ v', e = .returned v' ∧ ErrP w' c (s :: p) v' ∧ Below w.heap.size w w' := by
  obtain ⟨ty, x, rfl⟩ := hv.iface
  have HV := Aside0.mk hv
  clear hv
  go_enter Tryd.func18, Tryd.ntmps18
  go_wp2
  go_ret
  have B : Below w.heap.size w (w.alloc (.cells #[.string s, .iface ty x] 48)) := below_alloc (Below.refl _ _) _
  exact ⟨_, rfl, ⟨w.heap.size, _, rfl, heap_new _ _, HV.out.below ⟨B⟩⟩, B⟩
end Go.Proofs.YtcheifegfigegaaDoor.PE
