/- Errors: errors.As over an error that errors.New made, bare or wrapped: false at either target; fault.Code, fault.Wrap. -/
import Derived.Test.YtcheifegfigegaaDoorHAs3
namespace Go.Proofs.YtcheifegfigegaaDoor.PE
open Go.RowKit Go.Extern.Stop Go.Stop Go.Extern Go.Proofs.YtcheifegfigegaaDoorW.PrintWords Go.Proofs.YtcheifegfigegaaDoorW.PrintLast Go.Proofs.YtcheifegfigegaaDoorW.PrintMore
set_option linter.unusedVariables false
set_option linter.unusedSimpArgs false
theorem typeOfQ (v : Value) (w : World) : (ReflectliteType.typeOf #[.iface 64 v]).run Tryd.prog w = .ok (.iface 68 (.agg #[.pointer (some ⟨4, 64, none⟩)])) w := by kernel_rfl
theorem assignableQ (w : World) : (ReflectliteType.relation "AssignableTo" ReflectliteType.assignableTo #[.agg #[.pointer (some ⟨4, 64, none⟩)], .iface 68 (.agg #[.pointer (some ⟨4, 24, none⟩)])]).run Tryd.prog w = .ok (.bool false) w := by kernel_rfl
theorem assignableQ2 (w : World) : (ReflectliteType.relation "AssignableTo" ReflectliteType.assignableTo #[.agg #[.pointer (some ⟨4, 64, none⟩)], .iface 68 (.agg #[.pointer (some ⟨4, 45, none⟩)])]).run Tryd.prog w = .ok (.bool false) w := by kernel_rfl
theorem assertAsQ (v : Value) (xT : TypeId) (w : World) : (Instr.typeAssert (.iface 64 v) xT 80 true).run Tryd.prog w = .ok (.tuple #[.nilIface, .bool false]) w := run_typeAssert_lacksB Tryd.underlying80 (by kernel_rfl) (by kernel_rfl) v xT w
theorem assertUnQ (v : Value) (xT : TypeId) (w : World) : (Instr.typeAssert (.iface 64 v) xT 73 true).run Tryd.prog w = .ok (.tuple #[.nilIface, .bool false]) w := run_typeAssert_lacksB Tryd.underlying73 (by kernel_rfl) (by kernel_rfl) v xT w
theorem assertUsQ (v : Value) (xT : TypeId) (w : World) : (Instr.typeAssert (.iface 64 v) xT 75 true).run Tryd.prog w = .ok (.tuple #[.nilIface, .bool false]) w := run_typeAssert_lacksB Tryd.underlying75 (by kernel_rfl) (by kernel_rfl) v xT w
theorem assertIsQ (v : Value) (xT : TypeId) (w : World) : (Instr.typeAssert (.iface 64 v) xT 70 true).run Tryd.prog w = .ok (.tuple #[.nilIface, .bool false]) w := run_typeAssert_lacksB Tryd.underlying70 (by kernel_rfl) (by kernel_rfl) v xT w
/-- v is the error L, in memory W, that came through the places p (the outermost first). -/
def ErrQ (W : World) (L : Value) : List ByteArray → Value → Prop
  | [], v => v = L
  | s :: p, v => ∃ (g : Nat) (v' : Value), v = .iface 45 (.pointer (some ⟨g, 0, none⟩)) ∧ W.heap[g]? = some (.cells #[.string s, v'] 48 (0, 0)) ∧ ErrQ W L p v'
theorem ErrQ.below {W W' : World} (h : Aside0 (Below W.heap.size W W')) {L : Value} : ∀ {p : List ByteArray} {v : Value}, ErrQ W L p v → ErrQ W' L p v
  | [], _, hv => hv
  | _ :: _, _, ⟨g, v', e, hg, hv⟩ => ⟨g, v', e, heap_below h hg, ErrQ.below h hv⟩
theorem ErrQ.iface {W : World} {t : TypeId} {x : Value} {p : List ByteArray} {v : Value} (h : ErrQ W (.iface t x) p v) : ∃ t x, v = .iface t x := by
  cases p with
  | nil => exact ⟨_, _, h⟩
  | cons s p => obtain ⟨g, v', e, _⟩ := h; exact ⟨_, _, e⟩
set_option maxHeartbeats 4000000 in
set_option maxRecDepth 100000 in
theorem asQ_calls (p : List ByteArray) (v : Value) (b : Addr) (t a : Addr) (old : Value) (w : World) (hv : ErrQ w (.iface 64 (.pointer (some b))) p v) (ha : w.cell? a = some (.pointer (some t))) (ht : w.cell? t = some old) (hf : w.frozen? t = false) :
    Calls Tryd.prog 27 #[v, .iface 39 (.pointer (some t)), .agg #[.pointer (some ⟨4, 39, none⟩), .pointer (some a), .int .u64 150], .iface 68 (.agg #[.pointer (some ⟨4, 24, none⟩)])] w
      fun e w' => e = .returned (.bool false) ∧ Below w.heap.size w w' := by
  have hTO := @run_callFunc_extern Tryd.prog 22 _ ReflectliteType.typeOf Tryd.func22 (by kernel_rfl) (by kernel_rfl) (by kernel_rfl) (by kernel_rfl)
  have hAT := @run_callFunc_extern Tryd.prog 68 _ (ReflectliteType.relation "AssignableTo" ReflectliteType.assignableTo) Tryd.func68 (by kernel_rfl) (by kernel_rfl) (by kernel_rfl) (by kernel_rfl)
  have hVE := @run_callFunc_extern Tryd.prog 29 _ (ReflectliteValue.method (ReflectliteValue.valueError "reflectlite.Value.Elem" 0) ReflectliteValue.elem) Tryd.func29 (by kernel_rfl) (by kernel_rfl) (by kernel_rfl) (by kernel_rfl)
  have hVS := @run_callFunc_extern Tryd.prog 30 _ ReflectliteValue.set Tryd.func30 (by kernel_rfl) (by kernel_rfl) (by kernel_rfl) (by kernel_rfl)
  have hVO := @run_callFunc_extern Tryd.prog 24 _ (fun args => ReflectliteValue.unpack (args.getD 0 (.tuple #[]))) Tryd.func24 (by kernel_rfl) (by kernel_rfl) (by kernel_rfl) (by kernel_rfl)
  have tE := typeOfQ
  have tS := typeOfS
  have mA := methodAssignableTo
  have aE := assignableQ
  have xA2 := assertAsQ
  have xU2 := assertUnQ
  have xV2 := assertUsQ
  have aS := assignableS
  have mU := methodUnwrap
  have xA := assertAs
  have xU := assertUn
  have HV := Aside0.mk hv
  have HA := Aside0.mk ha
  have HT := Aside0.mk ht
  have HF := Aside0.mk hf
  clear hv ha ht hf
  go_enter Tryd.func27, Tryd.ntmps27
  go_wp2
  go_loopg [0] p.length (fun n x W' => ∃ q : List ByteArray, Aside0 (q.length = n) ∧ Aside0 (ErrQ w (.iface 64 (.pointer (some b))) q x) ∧ Aside0 (Below (w.alloc (.cells #[.pointer (some ⟨4, 39, none⟩), .pointer (some a), .int .u64 150] 56)).heap.size (w.alloc (.cells #[.pointer (some ⟨4, 39, none⟩), .pointer (some a), .int .u64 150] 56)) W'))
  case atStart => exact ⟨p, ⟨rfl⟩, HV, ⟨Below.refl _ _⟩⟩
  case round =>
    obtain ⟨q, hq, HX, HB⟩ := hrel
    have BW : Aside0 (Below w.heap.size w wr) := btrans (balloc ⟨Below.refl _ _⟩ _) HB
    have hG := heap_below HB (heap_new w (.cells #[.pointer (some ⟨4, 39, none⟩), .pointer (some a), .int .u64 150] 56))
    have c0 : wr.cell? ⟨w.heap.size, 0, none⟩ = some (.pointer (some ⟨4, 39, none⟩)) := cell_of_heap hG 0
    have c1 : wr.cell? ⟨w.heap.size, 1, none⟩ = some (.pointer (some a)) := cell_of_heap hG 1
    have c2 : wr.cell? ⟨w.heap.size, 2, none⟩ = some (.int .u64 150) := cell_of_heap hG 2
    clear hG
    cases q with
    | nil =>
      obtain rfl : u0 = .iface 64 (.pointer (some b)) := HX.out
      go_wp2
      go_ret
      exact ⟨rfl, BW.out⟩
    | cons s q =>
      obtain ⟨g, v', e, hg, hv'⟩ := HX.out
      subst e
      obtain ⟨ty, x, rfl⟩ := hv'.iface
      have HX' := Aside0.mk hv'
      have d1 : wr.cell? ⟨g, 1, none⟩ = some (.iface ty x) := cell_of_heap (heap_below BW hg) 1
      have d0 : wr.cell? ⟨g, 0, none⟩ = some (.string s) := cell_of_heap (heap_below BW hg) 0
      clear hg hv' HX
      go_wp2
      go_roundg q.length
      case measure => have := hq.out; simp at this; omega
      case rel => exact ⟨q, ⟨rfl⟩, HX', HB⟩
set_option maxHeartbeats 4000000 in
set_option maxRecDepth 100000 in
theorem AsQ_calls (p : List ByteArray) (v : Value) (b : Addr) (t : Addr) (old : Value) (w : World) (hg : w.cell? ⟨0, 0, none⟩ = some (.iface 68 (.agg #[.pointer (some ⟨4, 26, none⟩)]))) (hv : ErrQ w (.iface 64 (.pointer (some b))) p v) (ht : w.cell? t = some old) (hf : w.frozen? t = false) :
    Calls Tryd.prog 17 #[v, .iface 39 (.pointer (some t))] w
      fun e w' => e = .returned (.bool false) ∧ Below w.heap.size w w' := by
  have hVO := @run_callFunc_extern Tryd.prog 24 _ (fun args => ReflectliteValue.unpack (args.getD 0 (.tuple #[]))) Tryd.func24 (by kernel_rfl) (by kernel_rfl) (by kernel_rfl) (by kernel_rfl)
  have hVT := @run_callFunc_extern Tryd.prog 25 _ (ReflectliteValue.methodAny (ReflectliteValue.valueError "reflectlite.Value.Type" 0) (fun t _ _ _ => ReflectliteType.toType t)) Tryd.func25 (by kernel_rfl) (by kernel_rfl) (by kernel_rfl) (by kernel_rfl)
  have hVN := @run_callFunc_extern Tryd.prog 26 _ (ReflectliteValue.method (ReflectliteValue.valueError "reflectlite.Value.IsNil" 0) ReflectliteValue.isNil) Tryd.func26 (by kernel_rfl) (by kernel_rfl) (by kernel_rfl) (by kernel_rfl)
  have hK := @run_callFunc_extern Tryd.prog 58 _ (ReflectliteType.abiMethod fun t => do pure (.int .u8 (← Rtype.kind t))) Tryd.func58 (by kernel_rfl) (by kernel_rfl) (by kernel_rfl) (by kernel_rfl)
  have hE := @run_callFunc_extern Tryd.prog 70 _ (ReflectliteType.method ReflectliteType.elem) Tryd.func70 (by kernel_rfl) (by kernel_rfl) (by kernel_rfl) (by kernel_rfl)
  have hI := @run_callFunc_extern Tryd.prog 71 _ (ReflectliteType.relation "Implements" ReflectliteType.implements_) Tryd.func71 (by kernel_rfl) (by kernel_rfl) (by kernel_rfl) (by kernel_rfl)
  have vP := valueOfP
  have tP := typeP
  have mK := methodKind
  have kP := kindP
  have kE := kindE
  have mE := methodElem
  have eP := elemP
  have mI := methodImplements
  have iE := implementsE
  have nP := isNilP ⟨w.heap.size, 0, none⟩ t ((w.alloc (.cells #[.pointer (some t)] 39)).alloc (.cells #[.pointer (some ⟨4, 39, none⟩), .pointer (some ⟨w.heap.size, 0, none⟩), .int .u64 150] 56)) (by rw [World.cell?_alloc_lt _ _ _ (by simp)]; exact cell_new _ _ _ 0)
  have hlt : 0 < w.heap.size := World.block_lt_of_cell? w _ hg
  have hg2 : ((w.alloc (.cells #[.pointer (some t)] 39)).alloc (.cells #[.pointer (some ⟨4, 39, none⟩), .pointer (some ⟨w.heap.size, 0, none⟩), .int .u64 150] 56)).cell? ⟨0, 0, none⟩ = some (.iface 68 (.agg #[.pointer (some ⟨4, 26, none⟩)])) := by
    rw [World.cell?_alloc_lt _ _ ⟨0, 0, none⟩ (by simp), World.cell?_alloc_lt _ _ ⟨0, 0, none⟩ hlt]; exact hg
  obtain ⟨ty, x, rfl⟩ := hv.iface
  have HV := Aside0.mk hv
  have HT := Aside0.mk ht
  have HF := Aside0.mk hf
  have htl := World.block_lt_of_cell? w t ht
  clear hv ht hf hg
  go_enter Tryd.func17, Tryd.ntmps17
  go_wp2_with fail
  refine (asQ_calls p _ b t ⟨w.heap.size, 0, none⟩ old _ (HV.out.below (balloc (balloc ⟨Below.refl _ _⟩ _) _)) (by rw [World.cell?_alloc_lt _ _ _ (by simp)]; exact cell_new _ _ _ 0) (by rw [World.cell?_alloc_lt _ _ t (by simp; omega), World.cell?_alloc_lt _ _ t htl]; exact HT.out) (by rw [World.frozen?_alloc_old _ _ t (by simp; omega), World.frozen?_alloc_old _ _ t (Nat.ne_of_lt htl)]; exact HF.out)).mono ?_
  rintro e w' ⟨rfl, hb⟩
  go_wp2
  go_ret
  exact ⟨rfl, below_then (below_alloc (below_alloc (Below.refl _ _) _) _) (by simp; omega) hb⟩
set_option maxHeartbeats 4000000 in
theorem codeQ (p : List ByteArray) (v : Value) (b : Addr) (w : World) (hg : Gerr w) (hv : ErrQ w (.iface 64 (.pointer (some b))) p v) :
    Calls Tryd.prog 11 #[v] w fun e w' => e = .returned (.int .i64 99) ∧ Below w.heap.size w w' := by
  obtain ⟨ty, x, rfl⟩ := hv.iface
  have HG := Aside0.mk hg
  have HV := Aside0.mk hv
  clear hg hv
  go_enter Tryd.func11, Tryd.ntmps11
  go_wp2_with fail
  refine (AsQ_calls p _ b ⟨w.heap.size, 0, none⟩ _ _ (HG.out.below (balloc ⟨Below.refl _ _⟩ _)) (HV.out.below (balloc ⟨Below.refl _ _⟩ _)) (cell_new _ _ _ 0) (by simp)).mono ?_
  rintro e w' ⟨rfl, hb⟩
  have B := Aside0.mk (below_then (below_alloc (Below.refl _ _) _) (by simp) hb)
  clear hb
  go_wp2
  go_ret
  exact ⟨rfl, B.out⟩
set_option maxHeartbeats 4000000 in
theorem wrapQ (p : List ByteArray) (v : Value) (b : Addr) (s : ByteArray) (w : World) (hv : ErrQ w (.iface 64 (.pointer (some b))) p v) :
    Calls Tryd.prog 18 #[v, .string s] w fun e w' => ∃ v', e = .returned v' ∧ ErrQ w' (.iface 64 (.pointer (some b))) (s :: p) v' ∧ Below w.heap.size w w' := by
  obtain ⟨ty, x, rfl⟩ := hv.iface
  have HV := Aside0.mk hv
  clear hv
  go_enter Tryd.func18, Tryd.ntmps18
  go_wp2
  go_ret
  have B : Below w.heap.size w (w.alloc (.cells #[.string s, .iface ty x] 48)) := below_alloc (Below.refl _ _) _
  exact ⟨_, rfl, ⟨w.heap.size, _, rfl, heap_new _ _, HV.out.below ⟨B⟩⟩, B⟩
set_option maxHeartbeats 4000000 in
set_option maxRecDepth 100000 in
theorem as2Q (b : Addr) (t a : Addr) (w : World) :
    Calls Tryd.prog 27 #[.iface 64 (.pointer (some b)), .iface 46 (.pointer (some t)), .agg #[.pointer (some ⟨4, 46, none⟩), .pointer (some a), .int .u64 150], .iface 68 (.agg #[.pointer (some ⟨4, 45, none⟩)])] w
      fun e w' => e = .returned (.bool false) ∧ Below w.heap.size w w' := by
  have hTO := @run_callFunc_extern Tryd.prog 22 _ ReflectliteType.typeOf Tryd.func22 (by kernel_rfl) (by kernel_rfl) (by kernel_rfl) (by kernel_rfl)
  have hAT := @run_callFunc_extern Tryd.prog 68 _ (ReflectliteType.relation "AssignableTo" ReflectliteType.assignableTo) Tryd.func68 (by kernel_rfl) (by kernel_rfl) (by kernel_rfl) (by kernel_rfl)
  have tE := typeOfQ
  have mA := methodAssignableTo
  have aE := assignableQ2
  have xA := assertAsQ
  have xU := assertUnQ
  have xV := assertUsQ
  go_enter Tryd.func27, Tryd.ntmps27
  go_wp2
  go_loopg [0] 0 (fun n x W' => x = .iface 64 (.pointer (some b)) ∧ Aside0 (Below (w.alloc (.cells #[.pointer (some ⟨4, 46, none⟩), .pointer (some a), .int .u64 150] 56)).heap.size (w.alloc (.cells #[.pointer (some ⟨4, 46, none⟩), .pointer (some a), .int .u64 150] 56)) W'))
  case atStart => exact ⟨rfl, ⟨Below.refl _ _⟩⟩
  case round =>
    obtain ⟨hx, HB⟩ := hrel
    have BW : Aside0 (Below w.heap.size w wr) := btrans (balloc ⟨Below.refl _ _⟩ _) HB
    have hG := heap_below HB (heap_new w (.cells #[.pointer (some ⟨4, 46, none⟩), .pointer (some a), .int .u64 150] 56))
    have c0 : wr.cell? ⟨w.heap.size, 0, none⟩ = some (.pointer (some ⟨4, 46, none⟩)) := cell_of_heap hG 0
    have c1 : wr.cell? ⟨w.heap.size, 1, none⟩ = some (.pointer (some a)) := cell_of_heap hG 1
    have c2 : wr.cell? ⟨w.heap.size, 2, none⟩ = some (.int .u64 150) := cell_of_heap hG 2
    clear hG
    subst hx
    go_wp2
    go_ret
    exact ⟨rfl, BW.out⟩
set_option maxHeartbeats 4000000 in
set_option maxRecDepth 100000 in
theorem As2Q (b : Addr) (t : Addr) (old : Value) (w : World) (hg : w.cell? ⟨0, 0, none⟩ = some (.iface 68 (.agg #[.pointer (some ⟨4, 26, none⟩)]))) (ht : w.cell? t = some old) (hf : w.frozen? t = false) :
    Calls Tryd.prog 17 #[.iface 64 (.pointer (some b)), .iface 46 (.pointer (some t))] w
      fun e w' => e = .returned (.bool false) ∧ Below w.heap.size w w' := by
  have hVO := @run_callFunc_extern Tryd.prog 24 _ (fun args => ReflectliteValue.unpack (args.getD 0 (.tuple #[]))) Tryd.func24 (by kernel_rfl) (by kernel_rfl) (by kernel_rfl) (by kernel_rfl)
  have hVT := @run_callFunc_extern Tryd.prog 25 _ (ReflectliteValue.methodAny (ReflectliteValue.valueError "reflectlite.Value.Type" 0) (fun t _ _ _ => ReflectliteType.toType t)) Tryd.func25 (by kernel_rfl) (by kernel_rfl) (by kernel_rfl) (by kernel_rfl)
  have hVN := @run_callFunc_extern Tryd.prog 26 _ (ReflectliteValue.method (ReflectliteValue.valueError "reflectlite.Value.IsNil" 0) ReflectliteValue.isNil) Tryd.func26 (by kernel_rfl) (by kernel_rfl) (by kernel_rfl) (by kernel_rfl)
  have hK := @run_callFunc_extern Tryd.prog 58 _ (ReflectliteType.abiMethod fun t => do pure (.int .u8 (← Rtype.kind t))) Tryd.func58 (by kernel_rfl) (by kernel_rfl) (by kernel_rfl) (by kernel_rfl)
  have hE := @run_callFunc_extern Tryd.prog 70 _ (ReflectliteType.method ReflectliteType.elem) Tryd.func70 (by kernel_rfl) (by kernel_rfl) (by kernel_rfl) (by kernel_rfl)
  have hI := @run_callFunc_extern Tryd.prog 71 _ (ReflectliteType.relation "Implements" ReflectliteType.implements_) Tryd.func71 (by kernel_rfl) (by kernel_rfl) (by kernel_rfl) (by kernel_rfl)
  have vP := valueOfP2
  have tP := typeP2
  have mK := methodKind
  have kP := kindP2
  have kE := kindE2
  have mE := methodElem
  have eP := elemP2
  have mI := methodImplements
  have iE := implementsE2
  have nP := isNilP2 ⟨w.heap.size, 0, none⟩ t ((w.alloc (.cells #[.pointer (some t)] 46)).alloc (.cells #[.pointer (some ⟨4, 46, none⟩), .pointer (some ⟨w.heap.size, 0, none⟩), .int .u64 150] 56)) (by rw [World.cell?_alloc_lt _ _ _ (by simp)]; exact cell_new _ _ _ 0)
  have hlt : 0 < w.heap.size := World.block_lt_of_cell? w _ hg
  have hg2 : ((w.alloc (.cells #[.pointer (some t)] 46)).alloc (.cells #[.pointer (some ⟨4, 46, none⟩), .pointer (some ⟨w.heap.size, 0, none⟩), .int .u64 150] 56)).cell? ⟨0, 0, none⟩ = some (.iface 68 (.agg #[.pointer (some ⟨4, 26, none⟩)])) := by
    rw [World.cell?_alloc_lt _ _ ⟨0, 0, none⟩ (by simp), World.cell?_alloc_lt _ _ ⟨0, 0, none⟩ hlt]; exact hg
  have HT := Aside0.mk ht
  have HF := Aside0.mk hf
  have htl := World.block_lt_of_cell? w t ht
  clear ht hf hg
  go_enter Tryd.func17, Tryd.ntmps17
  go_wp2_with fail
  refine (as2Q b t ⟨w.heap.size, 0, none⟩ _).mono ?_
  rintro e w' ⟨rfl, hb⟩
  go_wp2
  go_ret
  exact ⟨rfl, below_then (below_alloc (below_alloc (Below.refl _ _) _) _) (by simp; omega) hb⟩
end Go.Proofs.YtcheifegfigegaaDoor.PE
