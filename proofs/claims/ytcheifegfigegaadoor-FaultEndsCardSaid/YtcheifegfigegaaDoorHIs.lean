/- Errors: errors.As at a target of the type of steps; errors.Is against a number; fault.Is. -/
import Derived.Test.YtcheifegfigegaaDoorHAs2
import Derived.Lib.IfaceEq
namespace Go.Proofs.YtcheifegfigegaaDoor.PE
open Go.RowKit Go.Extern.Stop Go.Stop Go.Extern Go.Proofs.YtcheifegfigegaaDoorW.PrintWords Go.Proofs.YtcheifegfigegaaDoorW.PrintLast Go.Proofs.YtcheifegfigegaaDoorW.PrintMore
set_option linter.unusedVariables false
set_option linter.unusedSimpArgs false
theorem eqE (c m : Int) (w : World) : (binOp .eql 26 (.iface 24 (.int .i64 c)) (.iface 24 (.int .i64 m))).run Tryd.prog w = .ok (.bool (c == m)) w := Go.Lib.run_eql_iface_int w c m Tryd.underlying26 (by kernel_rfl) Tryd.underlying24
theorem eqS (x : Value) (m : Int) (w : World) : (binOp .eql 26 (.iface 45 x) (.iface 24 (.int .i64 m))).run Tryd.prog w = .ok (.bool false) w := run_eql_iface_types 45 24 x _ Tryd.underlying26 (by decide) w
theorem comparableE (w : World) : ((ReflectliteType.method fun t => do Rtype.noPackHeld "Comparable" t; (fun a => Value.bool a.comparable) <$> typeInfo t) #[.agg #[.pointer (some ⟨4, 24, none⟩)]]).run Tryd.prog w = .ok (.bool true) w := by kernel_rfl
theorem methodComparable (h : Value) (w : World) : (Go.method 230 68 (.agg #[h]) "Comparable").run Tryd.prog w = .ok (69, .agg #[h]) w := by kernel_rfl
set_option maxHeartbeats 4000000 in
set_option maxRecDepth 100000 in
theorem is_calls (p : List ByteArray) (v : Value) (c m : Int) (w : World) (hv : ErrP w c p v) :
    Calls Tryd.prog 23 #[v, .iface 24 (.int .i64 m), .bool true] w fun e w' => e = .returned (.bool (c == m)) ∧ Below w.heap.size w w' := by
  have eE := eqE
  have eS := eqS
  have iE := assertIsE
  have iS := assertIsS
  have xU := assertUn
  have xE := assertUnE
  have xV := assertUsE
  have mU := methodUnwrap
  have HV := Aside0.mk hv
  clear hv
  go_enter Tryd.func23, Tryd.ntmps23
  go_wp2
  go_loopg [0] p.length (fun n x W' => ∃ q : List ByteArray, Aside0 (q.length = n) ∧ Aside0 (ErrP w c q x) ∧ Aside0 (Below w.heap.size w W'))
  case atStart => exact ⟨p, ⟨rfl⟩, HV, ⟨Below.refl _ _⟩⟩
  case round =>
    obtain ⟨q, hq, HX, BW⟩ := hrel
    cases q with
    | nil =>
      obtain rfl : u0 = .iface 24 (.int .i64 c) := HX.out
      cases hcm : (c == m) with
      | true =>
        go_wp2
        go_ret
        exact ⟨by rw [hcm]; rfl, BW.out⟩
      | false =>
        go_wp2
        go_ret
        exact ⟨by rw [hcm]; rfl, BW.out⟩
    | cons s q =>
      obtain ⟨g, v', e, hg, hv'⟩ := HX.out
      subst e
      obtain ⟨ty, x, rfl⟩ := hv'.iface
      have HX' := Aside0.mk hv'
      have d1 : wr.cell? ⟨g, 1, none⟩ = some (.iface ty x) := cell_of_heap (heap_below BW hg) 1
      have d0 : wr.cell? ⟨g, 0, none⟩ = some (.string s) := cell_of_heap (heap_below BW hg) 0
      clear hg hv' HX
      go_wp2
      go_roundg q.length
      case measure => have := hq.out; simp at this; omega
      case rel => exact ⟨q, ⟨rfl⟩, HX', BW⟩
set_option maxHeartbeats 4000000 in
set_option maxRecDepth 100000 in
theorem Is_calls (p : List ByteArray) (v : Value) (c m : Int) (w : World) (hv : ErrP w c p v) :
    Calls Tryd.prog 16 #[v, .iface 24 (.int .i64 m)] w fun e w' => e = .returned (.bool (c == m)) ∧ Below w.heap.size w w' := by
  obtain ⟨ty, x, rfl⟩ := hv.iface
  have hTO := @run_callFunc_extern Tryd.prog 22 _ ReflectliteType.typeOf Tryd.func22 (by kernel_rfl) (by kernel_rfl) (by kernel_rfl) (by kernel_rfl)
  have hCO := @run_callFunc_extern Tryd.prog 69 _ (ReflectliteType.method fun t => do Rtype.noPackHeld "Comparable" t; pure (.bool (← typeInfo t).comparable)) Tryd.func69 (by kernel_rfl) (by kernel_rfl) (by kernel_rfl) (by kernel_rfl)
  have tE := typeOfE
  have cE := comparableE
  have mC := methodComparable
  have HV := Aside0.mk hv
  clear hv
  go_enter Tryd.func16, Tryd.ntmps16
  go_wp2_with fail
  refine (is_calls p _ c m w HV.out).mono ?_
  rintro e w' ⟨rfl, hb⟩
  have HB := Aside0.mk hb
  clear hb
  go_wp2_with fail
  go_ret
  exact ⟨rfl, HB.out⟩
set_option maxHeartbeats 4000000 in
theorem FIs_nil (m : Int) (w : World) : Calls Tryd.prog 15 #[.nilIface, .int .i64 m] w fun e w' => e = .returned (.bool (m == 0)) ∧ w' = w := by
  cases hm : (m == 0) with
  | true =>
    go_enter Tryd.func15, Tryd.ntmps15
    go_wp2
    go_ret
    exact ⟨rfl, rfl⟩
  | false =>
    go_enter Tryd.func15, Tryd.ntmps15
    go_wp2
    go_ret
    exact ⟨rfl, rfl⟩
set_option maxHeartbeats 4000000 in
set_option maxRecDepth 100000 in
theorem FIs_err (p : List ByteArray) (v : Value) (c m : Int) (w : World) (hg : Gerr w) (hv : ErrP w c p v) :
    Calls Tryd.prog 15 #[v, .int .i64 m] w fun e w' => e = .returned (.bool (c == m)) ∧ Below w.heap.size w w' := by
  obtain ⟨ty, x, rfl⟩ := hv.iface
  have HG := Aside0.mk hg
  have HV := Aside0.mk hv
  clear hg hv
  go_enter Tryd.func15, Tryd.ntmps15
  go_wp2_with fail
  refine (Is_calls p _ c m w HV.out).mono ?_
  rintro e w1 ⟨rfl, hb⟩
  have HB := Aside0.mk hb
  clear hb
  cases hcm : (c == m) with
  | true =>
    go_wp2_with fail
    go_ret
    exact ⟨by rw [hcm]; rfl, HB.out⟩
  | false =>
    go_wp2_with fail
    refine (code_err p _ c w1 (HG.out.below HB) (HV.out.below HB)).mono ?_
    rintro e w2 ⟨rfl, hb⟩
    have B2 := Aside0.mk (below_then HB.out HB.out.size hb)
    clear hb
    go_wp2_with fail
    go_ret
    exact ⟨by rw [hcm]; rfl, B2.out⟩
end Go.Proofs.YtcheifegfigegaaDoor.PE
