/- errors.Is of a wrapped error that errors.New made, against itself. -/
import Derived.Test.YtcheifegfigegaaDoorHPAs
import Derived.Test.YtcheifegfigegaaDoorHIs
namespace Go.Proofs.YtcheifegfigegaaDoor.PE
open Go.RowKit Go.Extern.Stop Go.Stop Go.Extern Go.Proofs.YtcheifegfigegaaDoorW.PrintWords Go.Proofs.YtcheifegfigegaaDoorW.PrintLast Go.Proofs.YtcheifegfigegaaDoorW.PrintMore
set_option linter.unusedVariables false
set_option linter.unusedSimpArgs false
theorem eqQ (b : Addr) (w : World) : (binOp .eql 26 (.iface 64 (.pointer (some b))) (.iface 64 (.pointer (some b)))).run Tryd.prog w = .ok (.bool true) w := by
  obtain ⟨i, hi⟩ := Option.isSome_iff_exists.1 (show (Tryd.prog.info? 64).isSome = true by kernel_rfl)
  obtain ⟨j, hj⟩ := Option.isSome_iff_exists.1 (show (Tryd.prog.info? 66).isSome = true by kernel_rfl)
  have hcmp : i.comparable = true := by
    have h : (Tryd.prog.info? 64).map (fun i => i.comparable) = some true := by kernel_rfl
    rw [hi] at h
    exact Option.some.inj h
  exact run_eql_iface_ptr_same (P := Tryd.prog) w b Tryd.underlying26 Tryd.underlying64 hi hcmp hj
theorem eqQS (x : Value) (b : Addr) (w : World) : (binOp .eql 26 (.iface 45 x) (.iface 64 (.pointer (some b)))).run Tryd.prog w = .ok (.bool false) w := run_eql_iface_types 45 64 x _ Tryd.underlying26 (by decide) w
theorem comparableQ (w : World) : ((ReflectliteType.method fun t => do Rtype.noPackHeld "Comparable" t; (fun a => Value.bool a.comparable) <$> typeInfo t) #[.agg #[.pointer (some ⟨4, 64, none⟩)]]).run Tryd.prog w = .ok (.bool true) w := by kernel_rfl
set_option maxHeartbeats 4000000 in
set_option maxRecDepth 100000 in
theorem isQ (p : List ByteArray) (v : Value) (b : Addr) (w : World) (hv : ErrQ w (.iface 64 (.pointer (some b))) p v) :
    Calls Tryd.prog 23 #[v, .iface 64 (.pointer (some b)), .bool true] w fun e w' => e = .returned (.bool true) ∧ Below w.heap.size w w' := by
  have eE := eqQ
  have eS := eqQS
  have iE := assertIsQ
  have iS := assertIsS
  have xU := assertUn
  have xE := assertUnQ
  have xV := assertUsQ
  have mU := methodUnwrap
  have HV := Aside0.mk hv
  clear hv
  go_enter Tryd.func23, Tryd.ntmps23
  go_wp2
  go_loopg [0] p.length (fun n x W' => ∃ q : List ByteArray, Aside0 (q.length = n) ∧ Aside0 (ErrQ w (.iface 64 (.pointer (some b))) q x) ∧ Aside0 (Below w.heap.size w W'))
  case atStart => exact ⟨p, ⟨rfl⟩, HV, ⟨Below.refl _ _⟩⟩
  case round =>
    obtain ⟨q, hq, HX, BW⟩ := hrel
    cases q with
    | nil =>
      obtain rfl : u0 = .iface 64 (.pointer (some b)) := HX.out
      go_wp2
      go_ret
      exact ⟨rfl, BW.out⟩
    | cons s q =>
      obtain ⟨g, v', e, hg, hv'⟩ := HX.out
      subst e
      obtain ⟨ty, x, rfl⟩ := hv'.iface
      have HX' := Aside0.mk hv'
      have d1 : wr.cell? ⟨g, 1, none⟩ = some (.iface ty x) := cell_of_heap (heap_below BW hg) 1
      have d0 : wr.cell? ⟨g, 0, none⟩ = some (.string s) := cell_of_heap (heap_below BW hg) 0
      clear hg hv' HX
      go_wp2
      go_roundg q.length
      case measure => have := hq.out; simp at this; omega
      case rel => exact ⟨q, ⟨rfl⟩, HX', BW⟩
set_option maxHeartbeats 4000000 in
set_option maxRecDepth 100000 in
theorem IsQ (p : List ByteArray) (v : Value) (b : Addr) (w : World) (hv : ErrQ w (.iface 64 (.pointer (some b))) p v) :
    Calls Tryd.prog 16 #[v, .iface 64 (.pointer (some b))] w fun e w' => e = .returned (.bool true) ∧ Below w.heap.size w w' := by
  obtain ⟨ty, x, rfl⟩ := hv.iface
  have hTO := @run_callFunc_extern Tryd.prog 22 _ ReflectliteType.typeOf Tryd.func22 (by kernel_rfl) (by kernel_rfl) (by kernel_rfl) (by kernel_rfl)
  have hCO := @run_callFunc_extern Tryd.prog 69 _ (ReflectliteType.method fun t => do Rtype.noPackHeld "Comparable" t; pure (.bool (← typeInfo t).comparable)) Tryd.func69 (by kernel_rfl) (by kernel_rfl) (by kernel_rfl) (by kernel_rfl)
  have tE := typeOfQ
  have cE := comparableQ
  have mC := methodComparable
  have HV := Aside0.mk hv
  clear hv
  go_enter Tryd.func16, Tryd.ntmps16
  go_wp2_with fail
  refine (isQ p _ b w HV.out).mono ?_
  rintro e w' ⟨rfl, hb⟩
  have HB := Aside0.mk hb
  clear hb
  go_wp2_with fail
  go_ret
  exact ⟨rfl, HB.out⟩
end Go.Proofs.YtcheifegfigegaaDoor.PE
