/- Errors by their contracts: errors.As at a target of the type of error numbers, over errors that fault.New and fault.Wrap made; fault.New; fault.Code. -/
import Derived.Test.YtfijlaahifeimaaDoorProg
import Derived.Test.YtfijlaahifeimaaDoorWMore
import Derived.WalkKit
import Derived.LaidEql
import Derived.Stop.Asserts
import Derived.RowKitTokens
import Derived.Deep.LoopGhost
import Derived.Outline
import Derived.BigQuiet
import Derived.Lib.SliceRun
namespace Go.Proofs.YtfijlaahifeimaaDoor.PE
open Go.RowKit Go.Extern.Stop Go.Stop Go.Extern Go.Proofs.YtfijlaahifeimaaDoorW.PrintWords Go.Proofs.YtfijlaahifeimaaDoorW.PrintLast Go.Proofs.YtfijlaahifeimaaDoorW.PrintMore
/-- What a register's write leaves, spelled out. -/
theorem put_ : (∀ (a : Act) (d : Tmp) (v : Value), a.put (some d) v = { a with tmps := a.tmps.setIfInBounds d v }) ∧ (∀ (a : Act) (v : Value), a.put none v = a) ∧ (∀ (l : List Value) (i : Nat) (v : Value), l.toArray.setIfInBounds i v = (l.set i v).toArray) ∧ (∀ (x : Value) (l : List Value) (v : Value), (x :: l).set 0 v = v :: l) ∧ (∀ (x : Value) (l : List Value) (n : Nat) (v : Value), (x :: l).set (n + 1) v = x :: l.set n v) :=
  ⟨fun _ _ _ => rfl, fun _ _ => rfl, List.setIfInBounds_toArray, fun _ _ _ => List.set_cons_zero, fun _ _ _ _ => List.set_cons_succ⟩
set_option linter.unusedVariables false
set_option linter.unusedSimpArgs false

/-! ### Closed facts on the model's entries for internal/reflectlite -/
theorem valueOfP (t : Addr) (w : World) : (ReflectliteValue.unpack (.iface 78 (.pointer (some t)))).run Tryd.prog w
    = .ok (.agg #[.pointer (some ⟨1, 78, none⟩), .pointer (some ⟨w.heap.size, 0, none⟩), .int .u64 150]) (w.alloc (.cells #[.pointer (some t)] 78)) := by kernel_rfl
theorem typeP (a : Addr) (w : World) : (ReflectliteValue.methodAny (ReflectliteValue.valueError "reflectlite.Value.Type" 0) (fun t _ _ _ => ReflectliteType.toType t) #[.agg #[.pointer (some ⟨1, 78, none⟩), .pointer (some a), .int .u64 150]]).run Tryd.prog w
    = .ok (.iface 129 (.agg #[.pointer (some ⟨1, 78, none⟩)])) w := by kernel_rfl
theorem methodKind (h : Value) (w : World) : (Go.method 277 129 (.agg #[h]) "Kind").run Tryd.prog w = .ok (96, h) w := by kernel_rfl
theorem kindP (w : World) : ((ReflectliteType.abiMethod fun t => (fun a : Nat => Value.int IntKind.u8 (a : Int)) <$> Rtype.kind t) #[.pointer (some ⟨1, 78, none⟩)]).run Tryd.prog w = .ok (.int .u8 22) w := by kernel_rfl
theorem kindE (w : World) : ((ReflectliteType.abiMethod fun t => (fun a : Nat => Value.int IntKind.u8 (a : Int)) <$> Rtype.kind t) #[.pointer (some ⟨1, 39, none⟩)]).run Tryd.prog w = .ok (.int .u8 2) w := by kernel_rfl
theorem rlm (z : Sem Value) (f : TypeId → Addr → Nat → Nat → Sem Value) (v : Value) :
    ReflectliteValue.method z f #[v] = (do match ← ReflectliteValue.parts v with | none => z | some (t, a, fl) => f t a fl (fl % 32)) := rfl
theorem partsP (a : Addr) (w : World) : (ReflectliteValue.parts (.agg #[.pointer (some ⟨1, 78, none⟩), .pointer (some a), .int .u64 150])).run Tryd.prog w = .ok (some (78, a, 150)) w := by kernel_rfl
theorem isNilP (a p : Addr) (W : World) (ha : W.cell? a = some (.pointer (some p))) :
    (ReflectliteValue.method (ReflectliteValue.valueError "reflectlite.Value.IsNil" 0) ReflectliteValue.isNil #[.agg #[.pointer (some ⟨1, 78, none⟩), .pointer (some a), .int .u64 150]]).run Tryd.prog W = .ok (.bool false) W := by
  rw [rlm]
  simp only [Sem.run_bind, partsP, Result.andThen]
  simp [ReflectliteValue.isNil, loadVar, isAgg, underlying, Tryd.underlying78, ha, Result.andThen]
theorem methodElem (h : Value) (w : World) : (Go.method 277 129 (.agg #[h]) "Elem").run Tryd.prog w = .ok (108, .agg #[h]) w := by kernel_rfl
theorem methodImplements (h : Value) (w : World) : (Go.method 277 129 (.agg #[h]) "Implements").run Tryd.prog w = .ok (109, .agg #[h]) w := by kernel_rfl
theorem methodAssignableTo (h : Value) (w : World) : (Go.method 277 129 (.agg #[h]) "AssignableTo").run Tryd.prog w = .ok (106, .agg #[h]) w := by kernel_rfl
theorem elemP (w : World) : (ReflectliteType.method ReflectliteType.elem #[.agg #[.pointer (some ⟨1, 78, none⟩)]]).run Tryd.prog w = .ok (.iface 129 (.agg #[.pointer (some ⟨1, 39, none⟩)])) w := by kernel_rfl
theorem implementsE (w : World) : (ReflectliteType.relation "Implements" ReflectliteType.implements_ #[.agg #[.pointer (some ⟨1, 39, none⟩)], .iface 129 (.agg #[.pointer (some ⟨1, 42, none⟩)])]).run Tryd.prog w = .ok (.bool true) w := by kernel_rfl
theorem typeOfE (v : Value) (w : World) : (ReflectliteType.typeOf #[.iface 39 v]).run Tryd.prog w = .ok (.iface 129 (.agg #[.pointer (some ⟨1, 39, none⟩)])) w := by kernel_rfl
theorem typeOfS (v : Value) (w : World) : (ReflectliteType.typeOf #[.iface 123 v]).run Tryd.prog w = .ok (.iface 129 (.agg #[.pointer (some ⟨1, 123, none⟩)])) w := by kernel_rfl
theorem assignableE (w : World) : (ReflectliteType.relation "AssignableTo" ReflectliteType.assignableTo #[.agg #[.pointer (some ⟨1, 39, none⟩)], .iface 129 (.agg #[.pointer (some ⟨1, 39, none⟩)])]).run Tryd.prog w = .ok (.bool true) w := by kernel_rfl
theorem assignableS (w : World) : (ReflectliteType.relation "AssignableTo" ReflectliteType.assignableTo #[.agg #[.pointer (some ⟨1, 123, none⟩)], .iface 129 (.agg #[.pointer (some ⟨1, 39, none⟩)])]).run Tryd.prog w = .ok (.bool false) w := by kernel_rfl
theorem valueOfE (c : Int) (w : World) : (ReflectliteValue.unpack (.iface 39 (.int .i64 c))).run Tryd.prog w
    = .ok (.agg #[.pointer (some ⟨1, 39, none⟩), .pointer (some ⟨w.heap.size, 0, none⟩), .int .u64 130]) (w.alloc (.cells #[.int .i64 c] 39)) := by kernel_rfl
theorem elemOfP (w : World) : (Rtype.elem? 78).run Tryd.prog w = .ok (some 39) w := by kernel_rfl
theorem mkE (p : Addr) (w : World) : (ReflectliteValue.mk 39 p ReflectliteValue.flagAddr).run Tryd.prog w = .ok (.agg #[.pointer (some ⟨1, 39, none⟩), .pointer (some p), .int .u64 386]) w := by kernel_rfl
theorem elemVP (a p : Addr) (W : World) (ha : W.cell? a = some (.pointer (some p))) :
    (ReflectliteValue.method (ReflectliteValue.valueError "reflectlite.Value.Elem" 0) ReflectliteValue.elem #[.agg #[.pointer (some ⟨1, 78, none⟩), .pointer (some a), .int .u64 150]]).run Tryd.prog W
      = .ok (.agg #[.pointer (some ⟨1, 39, none⟩), .pointer (some p), .int .u64 386]) W := by
  rw [rlm]
  simp only [Sem.run_bind, partsP, Result.andThen]
  simp [ReflectliteValue.elem, loadVar, isAgg, underlying, Tryd.underlying78, ha, Result.andThen, elemOfP, mkE]
theorem rls (v x : Value) : ReflectliteValue.set #[v, x] = (do
    let (some (dst, a, fl), some (src, b, _)) := (← ReflectliteValue.parts v, ← ReflectliteValue.parts x)
      | unsupported (.noEntry "extern/(internal/reflectlite.Value).Set.zeroValue")
    if fl / ReflectliteValue.flagAddr % 2 == 0 then unsupported (.noEntry "extern/(internal/reflectlite.Value).Set.unaddressable")
    let val ← loadVar src b
    if ← Rtype.directlyAssignable dst src then storeVar dst a val
    else if ← Rtype.implements dst src then
      if (← Rtype.kind src) == 20 then
        match val with
        | .nilIface => unsupported (.noEntry "extern/reflectlite: a nil value of one interface type handed on as a value of another")
        | _ => storeVar dst a val
      else storeVar dst a (.iface src val)
    else panicString ("reflectlite.Set: value of type " ++ (← Rtype.spelt src) ++ " is not assignable to type " ++ (← Rtype.spelt dst))
    pure (.tuple #[])) := rfl
theorem partsEa (a : Addr) (w : World) : (ReflectliteValue.parts (.agg #[.pointer (some ⟨1, 39, none⟩), .pointer (some a), .int .u64 386])).run Tryd.prog w = .ok (some (39, a, 386)) w := by kernel_rfl
theorem partsE (a : Addr) (w : World) : (ReflectliteValue.parts (.agg #[.pointer (some ⟨1, 39, none⟩), .pointer (some a), .int .u64 130])).run Tryd.prog w = .ok (some (39, a, 130)) w := by kernel_rfl
theorem directE (w : World) : (Rtype.directlyAssignable 39 39).run Tryd.prog w = .ok true w := by kernel_rfl
theorem setE (ta b : Addr) (c : Int) (old : Value) (W : World) (hb : W.cell? b = some (.int .i64 c)) (ht : W.cell? ta = some old) (hf : W.frozen? ta = false) :
    (ReflectliteValue.set #[.agg #[.pointer (some ⟨1, 39, none⟩), .pointer (some ta), .int .u64 386], .agg #[.pointer (some ⟨1, 39, none⟩), .pointer (some b), .int .u64 130]]).run Tryd.prog W
      = .ok (.tuple #[]) (W.setCell ta (.int .i64 c)) := by
  rw [rls]
  simp only [Sem.run_bind, partsEa, partsE, Result.andThen]
  simp [ReflectliteValue.flagAddr, loadVar, isAgg, underlying, Tryd.underlying39, hb, Result.andThen, directE, storeVar, Value.cells, storeCells, Addr.add]
  rw [run_store Tryd.prog W ta _ _ (by rfl)]
  simp [ht, hf]
theorem methodUnwrap (x : Addr) (w : World) : (Go.method 277 123 (.pointer (some x)) "Unwrap").run Tryd.prog w = .ok (104, .pointer (some x)) w := by kernel_rfl
theorem assertAs (v : Value) (xT : TypeId) (w : World) : (Instr.typeAssert (.iface 123 v) xT 134 true).run Tryd.prog w = .ok (.tuple #[.nilIface, .bool false]) w := run_typeAssert_lacksB Tryd.underlying134 (by kernel_rfl) (by kernel_rfl) v xT w
theorem assertUn (v : Value) (xT : TypeId) (w : World) : (Instr.typeAssert (.iface 123 v) xT 137 true).run Tryd.prog w = .ok (.tuple #[.iface 123 v, .bool true]) w := run_typeAssert_hasB Tryd.underlying137 (by kernel_rfl) v xT w
end Go.Proofs.YtfijlaahifeimaaDoor.PE
/- Errors by their contracts: errors.As at a target of the type of error numbers, over errors that fault.New and fault.Wrap made; fault.New; fault.Code. -/
namespace Go.Proofs.YtfijlaahifeimaaDoor.PE
open Go.RowKit Go.Extern.Stop Go.Stop Go.Extern Go.Proofs.YtfijlaahifeimaaDoorW.PrintWords Go.Proofs.YtfijlaahifeimaaDoorW.PrintLast Go.Proofs.YtfijlaahifeimaaDoorW.PrintMore
set_option linter.unusedVariables false
set_option linter.unusedSimpArgs false

theorem btrans {w w1 w2 : World} (h : Aside0 (Below w.heap.size w w1)) (k : Aside0 (Below w1.heap.size w1 w2)) : Aside0 (Below w.heap.size w w2) := ⟨below_then h.out h.out.size k.out⟩
theorem balloc {w w1 : World} (h : Aside0 (Below w.heap.size w w1)) (o : Obj) : Aside0 (Below w.heap.size w (w1.alloc o)) := ⟨below_alloc h.out o⟩
theorem bcellA {w w1 : World} (h : Aside0 (Below w.heap.size w w1)) {a : Addr} {v : Value} (hc : w.cell? a = some v) : w1.cell? a = some v := pw_cell_below h.out hc
theorem cell_new (w : World) (c : Array Value) (t : TypeId) (i : Nat) : (w.alloc (.cells c t)).cell? ⟨w.heap.size, i, none⟩ = c[i]? := World.cell?_alloc_new _ _ _ _
theorem heap_below {w w1 : World} (h : Aside0 (Below w.heap.size w w1)) {g : Nat} {o : Obj} (hg : w.heap[g]? = some o) : w1.heap[g]? = some o :=
  (h.out.block g (Array.getElem?_eq_some_iff.1 hg).1).trans hg
theorem heap_new (w : World) (o : Obj) : (w.alloc o).heap[w.heap.size]? = some o := heap_alloc_new w o
theorem heap_lt {w : World} {g : Nat} {o : Obj} (hg : w.heap[g]? = some o) : g < w.heap.size := (Array.getElem?_eq_some_iff.1 hg).1
theorem cell_of_heap {w : World} {g : Nat} {cs : Array Value} {t : TypeId} {fr : Nat × Nat} (hg : w.heap[g]? = some (.cells cs t fr)) (k : Nat) : w.cell? ⟨g, k, none⟩ = cs[k]? := by
  simp [World.cell?, hg]
theorem frozen_of_heap {w : World} {g : Nat} {cs : Array Value} {t : TypeId} (hg : w.heap[g]? = some (.cells cs t (0, 0))) (k : Nat) : w.frozen? ⟨g, k, none⟩ = false := by
  simp [World.frozen?, hg]

/-- v is an error of the number c, in memory W, that came through the places p (the outermost first). -/
def ErrP (W : World) (c : Int) : List ByteArray → Value → Prop
  | [], v => v = .iface 39 (.int .i64 c)
  | s :: p, v => ∃ (g : Nat) (v' : Value), v = .iface 123 (.pointer (some ⟨g, 0, none⟩)) ∧ W.heap[g]? = some (.cells #[.string s, v'] 125 (0, 0)) ∧ ErrP W c p v'
theorem ErrP.below {W W' : World} (h : Aside0 (Below W.heap.size W W')) {c : Int} : ∀ {p : List ByteArray} {v : Value}, ErrP W c p v → ErrP W' c p v
  | [], _, hv => hv
  | _ :: _, _, ⟨g, v', e, hg, hv⟩ => ⟨g, v', e, heap_below h hg, ErrP.below h hv⟩
theorem ErrP.iface {W : World} {c : Int} {p : List ByteArray} {v : Value} (h : ErrP W c p v) : ∃ t x, v = .iface t x := by
  cases p with
  | nil => exact ⟨_, _, h⟩
  | cons s p => obtain ⟨g, v', e, _⟩ := h; exact ⟨_, _, e⟩

set_option maxHeartbeats 4000000 in
set_option maxRecDepth 100000 in
theorem as_calls (p : List ByteArray) (v : Value) (c : Int) (t a : Addr) (old : Value) (w : World) (hv : ErrP w c p v) (ha : w.cell? a = some (.pointer (some t))) (ht : w.cell? t = some old) (hf : w.frozen? t = false) :
    Calls Tryd.prog 66 #[v, .iface 78 (.pointer (some t)), .agg #[.pointer (some ⟨1, 78, none⟩), .pointer (some a), .int .u64 150], .iface 129 (.agg #[.pointer (some ⟨1, 39, none⟩)])] w
      fun e w' => e = .returned (.bool true) ∧ ∃ w1, Below w.heap.size w w1 ∧ w' = w1.setCell t (.int .i64 c) := by
  have hTO := @run_callFunc_extern Tryd.prog 72 _ ReflectliteType.typeOf Tryd.func72 (by kernel_rfl) (by kernel_rfl) (by kernel_rfl) (by kernel_rfl)
  have hAT := @run_callFunc_extern Tryd.prog 106 _ (ReflectliteType.relation "AssignableTo" ReflectliteType.assignableTo) Tryd.func106 (by kernel_rfl) (by kernel_rfl) (by kernel_rfl) (by kernel_rfl)
  have hVE := @run_callFunc_extern Tryd.prog 73 _ (ReflectliteValue.method (ReflectliteValue.valueError "reflectlite.Value.Elem" 0) ReflectliteValue.elem) Tryd.func73 (by kernel_rfl) (by kernel_rfl) (by kernel_rfl) (by kernel_rfl)
  have hVS := @run_callFunc_extern Tryd.prog 74 _ ReflectliteValue.set Tryd.func74 (by kernel_rfl) (by kernel_rfl) (by kernel_rfl) (by kernel_rfl)
  have hVO := @run_callFunc_extern Tryd.prog 63 _ (fun args => ReflectliteValue.unpack (args.getD 0 (.tuple #[]))) Tryd.func63 (by kernel_rfl) (by kernel_rfl) (by kernel_rfl) (by kernel_rfl)
  have tE := typeOfE
  have tS := typeOfS
  have mA := methodAssignableTo
  have aE := assignableE
  have aS := assignableS
  have vE := valueOfE
  have mU := methodUnwrap
  have xA := assertAs
  have xU := assertUn
  have HV := Aside0.mk hv
  have HA := Aside0.mk ha
  have HT := Aside0.mk ht
  have HF := Aside0.mk hf
  clear hv ha ht hf
  go_enter Tryd.func66, Tryd.ntmps66
  go_wp2
  go_loopg [0] p.length (fun n x W' => ∃ q : List ByteArray, Aside0 (q.length = n) ∧ Aside0 (ErrP w c q x) ∧ Aside0 (Below (w.alloc (.cells #[.pointer (some ⟨1, 78, none⟩), .pointer (some a), .int .u64 150] 111)).heap.size (w.alloc (.cells #[.pointer (some ⟨1, 78, none⟩), .pointer (some a), .int .u64 150] 111)) W'))
  case atStart => exact ⟨p, ⟨rfl⟩, HV, ⟨Below.refl _ _⟩⟩
  case round =>
    obtain ⟨q, hq, HX, HB⟩ := hrel
    have BW : Aside0 (Below w.heap.size w wr) := btrans (balloc ⟨Below.refl _ _⟩ _) HB
    have hG := heap_below HB (heap_new w (.cells #[.pointer (some ⟨1, 78, none⟩), .pointer (some a), .int .u64 150] 111))
    have c0 : wr.cell? ⟨w.heap.size, 0, none⟩ = some (.pointer (some ⟨1, 78, none⟩)) := cell_of_heap hG 0
    have c1 : wr.cell? ⟨w.heap.size, 1, none⟩ = some (.pointer (some a)) := cell_of_heap hG 1
    have c2 : wr.cell? ⟨w.heap.size, 2, none⟩ = some (.int .u64 150) := cell_of_heap hG 2
    clear hG
    cases q with
    | nil =>
      obtain rfl : u0 = .iface 39 (.int .i64 c) := HX.out
      have eV := elemVP a t wr (bcellA BW HA.out)
      have htl : t.block < w.heap.size := World.block_lt_of_cell? w t HT.out
      have hts : t.block < wr.heap.size := Nat.lt_of_lt_of_le htl BW.out.size
      have eS := setE t ⟨wr.heap.size, 0, none⟩ c old (wr.alloc (.cells #[.int .i64 c] 39)) (cell_new _ _ _ 0) (by rw [World.cell?_alloc_lt _ _ t hts]; exact bcellA BW HT.out) (by rw [World.frozen?_alloc_old _ _ t (Nat.ne_of_lt hts), BW.out.frozen htl]; exact HF.out)
      clear htl hts
      go_wp2
      go_ret
      exact ⟨rfl, _, below_alloc BW.out _, rfl⟩
    | cons s q =>
      obtain ⟨g, v', e, hg, hv'⟩ := HX.out
      subst e
      obtain ⟨ty, x, rfl⟩ := hv'.iface
      have HX' := Aside0.mk hv'
      have d1 : wr.cell? ⟨g, 1, none⟩ = some (.iface ty x) := cell_of_heap (heap_below BW hg) 1
      have d0 : wr.cell? ⟨g, 0, none⟩ = some (.string s) := cell_of_heap (heap_below BW hg) 0
      clear hg hv' HX
      go_wp2
      go_roundg q.length
      case measure => have := hq.out; simp at this; omega
      case rel => exact ⟨q, ⟨rfl⟩, HX', HB⟩

theorem setCell_below {w w1 W : World} (h : Below w.heap.size w w1) {g : Nat} (hg : w.heap.size ≤ g) (u : Value) : Below w.heap.size w (w1.setCell ⟨g, 0, none⟩ u) := h.setCell hg u

set_option maxHeartbeats 4000000 in
set_option maxRecDepth 100000 in
theorem As_calls (p : List ByteArray) (v : Value) (c : Int) (t : Addr) (old : Value) (w : World) (hg : w.cell? ⟨0, 0, none⟩ = some (.iface 129 (.agg #[.pointer (some ⟨1, 42, none⟩)]))) (hv : ErrP w c p v) (ht : w.cell? t = some old) (hf : w.frozen? t = false) :
    Calls Tryd.prog 45 #[v, .iface 78 (.pointer (some t))] w
      fun e w' => e = .returned (.bool true) ∧ ∃ w1, Below w.heap.size w w1 ∧ w' = w1.setCell t (.int .i64 c) := by
  have hVO := @run_callFunc_extern Tryd.prog 63 _ (fun args => ReflectliteValue.unpack (args.getD 0 (.tuple #[]))) Tryd.func63 (by kernel_rfl) (by kernel_rfl) (by kernel_rfl) (by kernel_rfl)
  have hVT := @run_callFunc_extern Tryd.prog 64 _ (ReflectliteValue.methodAny (ReflectliteValue.valueError "reflectlite.Value.Type" 0) (fun t _ _ _ => ReflectliteType.toType t)) Tryd.func64 (by kernel_rfl) (by kernel_rfl) (by kernel_rfl) (by kernel_rfl)
  have hVN := @run_callFunc_extern Tryd.prog 65 _ (ReflectliteValue.method (ReflectliteValue.valueError "reflectlite.Value.IsNil" 0) ReflectliteValue.isNil) Tryd.func65 (by kernel_rfl) (by kernel_rfl) (by kernel_rfl) (by kernel_rfl)
  have hK := @run_callFunc_extern Tryd.prog 96 _ (ReflectliteType.abiMethod fun t => do pure (.int .u8 (← Rtype.kind t))) Tryd.func96 (by kernel_rfl) (by kernel_rfl) (by kernel_rfl) (by kernel_rfl)
  have hE := @run_callFunc_extern Tryd.prog 108 _ (ReflectliteType.method ReflectliteType.elem) Tryd.func108 (by kernel_rfl) (by kernel_rfl) (by kernel_rfl) (by kernel_rfl)
  have hI := @run_callFunc_extern Tryd.prog 109 _ (ReflectliteType.relation "Implements" ReflectliteType.implements_) Tryd.func109 (by kernel_rfl) (by kernel_rfl) (by kernel_rfl) (by kernel_rfl)
  have vP := valueOfP
  have tP := typeP
  have mK := methodKind
  have kP := kindP
  have kE := kindE
  have mE := methodElem
  have eP := elemP
  have mI := methodImplements
  have iE := implementsE
  have nP := isNilP ⟨w.heap.size, 0, none⟩ t ((w.alloc (.cells #[.pointer (some t)] 78)).alloc (.cells #[.pointer (some ⟨1, 78, none⟩), .pointer (some ⟨w.heap.size, 0, none⟩), .int .u64 150] 111)) (by rw [World.cell?_alloc_lt _ _ _ (by simp)]; exact cell_new _ _ _ 0)
  have hlt : 0 < w.heap.size := World.block_lt_of_cell? w _ hg
  have hg2 : ((w.alloc (.cells #[.pointer (some t)] 78)).alloc (.cells #[.pointer (some ⟨1, 78, none⟩), .pointer (some ⟨w.heap.size, 0, none⟩), .int .u64 150] 111)).cell? ⟨0, 0, none⟩ = some (.iface 129 (.agg #[.pointer (some ⟨1, 42, none⟩)])) := by
    rw [World.cell?_alloc_lt _ _ ⟨0, 0, none⟩ (by simp), World.cell?_alloc_lt _ _ ⟨0, 0, none⟩ hlt]; exact hg
  obtain ⟨ty, x, rfl⟩ := hv.iface
  have HV := Aside0.mk hv
  have HT := Aside0.mk ht
  have HF := Aside0.mk hf
  have htl := World.block_lt_of_cell? w t ht
  clear hv ht hf hg
  go_enter Tryd.func45, Tryd.ntmps45
  go_wp2_with fail
  refine (as_calls p _ c t ⟨w.heap.size, 0, none⟩ old _ (HV.out.below (balloc (balloc ⟨Below.refl _ _⟩ _) _)) (by rw [World.cell?_alloc_lt _ _ _ (by simp)]; exact cell_new _ _ _ 0) (by rw [World.cell?_alloc_lt _ _ t (by simp; omega), World.cell?_alloc_lt _ _ t htl]; exact HT.out) (by rw [World.frozen?_alloc_old _ _ t (by simp; omega), World.frozen?_alloc_old _ _ t (Nat.ne_of_lt htl)]; exact HF.out)).mono ?_
  rintro e w' ⟨rfl, w1, hb, rfl⟩
  go_wp2
  go_ret
  exact ⟨rfl, w1, below_then (below_alloc (below_alloc (Below.refl _ _) _) _) (by simp; omega) hb, rfl⟩

/-- The variable errors.errorType holds the handle of the type error. -/
def Gerr (w : World) : Prop := w.cell? ⟨0, 0, none⟩ = some (.iface 129 (.agg #[.pointer (some ⟨1, 42, none⟩)]))
theorem Gerr.below {w w1 : World} (h : Gerr w) (hb : Aside0 (Below w.heap.size w w1)) : Gerr w1 := bcellA hb h

set_option maxHeartbeats 4000000 in
theorem code_nil (w : World) : Calls Tryd.prog 18 #[.nilIface] w fun e w' => e = .returned (.int .i64 0) ∧ w' = w := by
  go_enter Tryd.func18, Tryd.ntmps18
  go_wp2
  go_ret
  exact ⟨rfl, rfl⟩
set_option maxHeartbeats 4000000 in
theorem code_err (p : List ByteArray) (v : Value) (c : Int) (w : World) (hg : Gerr w) (hv : ErrP w c p v) :
    Calls Tryd.prog 18 #[v] w fun e w' => e = .returned (.int .i64 c) ∧ Below w.heap.size w w' := by
  obtain ⟨ty, x, rfl⟩ := hv.iface
  have HG := Aside0.mk hg
  have HV := Aside0.mk hv
  clear hg hv
  go_enter Tryd.func18, Tryd.ntmps18
  go_wp2_with fail
  refine (As_calls p _ c ⟨w.heap.size, 0, none⟩ _ _ (HG.out.below (balloc ⟨Below.refl _ _⟩ _)) (HV.out.below (balloc ⟨Below.refl _ _⟩ _)) (cell_new _ _ _ 0) (by simp)).mono ?_
  rintro e w' ⟨rfl, w1, hb, rfl⟩
  have hlt : w.heap.size < w1.heap.size := by have := hb.size; simp at this; omega
  have hc : w1.cell? ⟨w.heap.size, 0, none⟩ = some (.int .i64 0) := bcellA ⟨hb⟩ (cell_new _ _ _ 0)
  have B := Aside0.mk (below_then (below_alloc (Below.refl _ _) _) (by simp) hb)
  clear hb
  go_wp2
  go_ret
  exact ⟨rfl, B.out.setCell (Nat.le_refl _) _⟩
set_option maxHeartbeats 4000000 in
theorem new_err (c : Int) (s : ByteArray) (w : World) (hc : (c == 0) = false) :
    Calls Tryd.prog 68 #[.int .i64 c, .string s] w fun e w' => ∃ v, e = .returned v ∧ ErrP w' c [s] v ∧ Below w.heap.size w w' := by
  go_enter Tryd.func68, Tryd.ntmps68
  go_wp2
  go_ret
  exact ⟨_, rfl, ⟨w.heap.size, _, rfl, heap_new _ _, rfl⟩, below_alloc (Below.refl _ _) _⟩
set_option maxHeartbeats 4000000 in
theorem new_ok (s : ByteArray) (w : World) :
    Calls Tryd.prog 68 #[.int .i64 0, .string s] w fun e w' => e = .returned .nilIface ∧ w' = w := by
  go_enter Tryd.func68, Tryd.ntmps68
  go_wp2
  go_ret
  exact ⟨rfl, rfl⟩
end Go.Proofs.YtfijlaahifeimaaDoor.PE
/- fault.Wrap by its contracts. -/
namespace Go.Proofs.YtfijlaahifeimaaDoor.PE
open Go.RowKit Go.Extern.Stop Go.Stop Go.Extern Go.Proofs.YtfijlaahifeimaaDoorW.PrintWords Go.Proofs.YtfijlaahifeimaaDoorW.PrintLast Go.Proofs.YtfijlaahifeimaaDoorW.PrintMore
set_option linter.unusedVariables false
set_option linter.unusedSimpArgs false
set_option maxHeartbeats 4000000 in
theorem wrap_nil (s : ByteArray) (w : World) :
    Calls Tryd.prog 48 #[.nilIface, .string s] w fun e w' => e = .returned .nilIface ∧ w' = w := by
  go_enter Tryd.func48, Tryd.ntmps48
  go_wp2
  go_ret
  exact ⟨rfl, rfl⟩
set_option maxHeartbeats 4000000 in
theorem wrap_err (p : List ByteArray) (v : Value) (c : Int) (s : ByteArray) (w : World) (hv : ErrP w c p v) :
    Calls Tryd.prog 48 #[v, .string s] w fun e w' => ∃ v', e = .returned v' ∧ ErrP w' c (s :: p) v' ∧ Below w.heap.size w w' := by
  obtain ⟨ty, x, rfl⟩ := hv.iface
  have HV := Aside0.mk hv
  clear hv
  go_enter Tryd.func48, Tryd.ntmps48
  go_wp2
  go_ret
  have B : Below w.heap.size w (w.alloc (.cells #[.string s, .iface ty x] 125)) := below_alloc (Below.refl _ _) _
  exact ⟨_, rfl, ⟨w.heap.size, _, rfl, heap_new _ _, HV.out.below ⟨B⟩⟩, B⟩
end Go.Proofs.YtfijlaahifeimaaDoor.PE
/- frame: what the walks share: one block changed, errors or none, slices.Clone. -/
namespace Go.Proofs.YtfijlaahifeimaaDoor.PE
open Go.RowKit Go.Extern.Stop Go.Stop Go.Extern Go.Proofs.YtfijlaahifeimaaDoorW.PrintWords Go.Proofs.YtfijlaahifeimaaDoorW.PrintLast Go.Proofs.YtfijlaahifeimaaDoorW.PrintMore
set_option linter.unusedVariables false
set_option linter.unusedSimpArgs false
theorem info5 : Option.map (fun i => (i.zero, i.size, i.bytes)) (Tryd.prog.info? 5) = some (some (.int .u8 0), 1, 1) := by kernel_rfl
theorem R_empty (w : World) : Kd.R (Kd.int .u8) 5 (w.alloc (.cells #[] 5)) w.heap.size (fun _ => True) (.slice (some ⟨w.heap.size, 0, none⟩) 0 0) ([] : List Int) :=
  ⟨fun _ _ => trivial, OwnRow.lit (ps := []) (inner := []) w w.heap.size (Reps.none _ _) (Nat.le_refl _) (by simp)⟩
set_option maxHeartbeats 4000000 in
theorem clone_calls (A : Option Addr) (n c : Nat) (xs : List Int) (w : World) (hC : Kd.C (Kd.int .u8) w A n xs) (hn : n ≤ 140737488355328) :
    Calls Tryd.prog 57 #[.slice A n c] w fun e w' => ∃ v, e = .returned v ∧ Kd.R (Kd.int .u8) 5 w' w.heap.size (fun _ => True) v xs ∧ Below w.heap.size w w' := by
  have q : ∀ (w : World) (a : Option Addr) (n c n' c' : Nat), (Go.binOp .eql 44 (.slice a n c) (.slice none n' c')).run Tryd.prog w = .ok (.bool a.isNone) w := fun w a n c n' c' => Lib.run_eql_slice_nil w _ _ a n c n' c' Tryd.underlying44
  have info5 := info5
  cases A with
  | none =>
    have h0 : n = 0 := by
      rcases Nat.eq_zero_or_pos n with h | h
      · exact h
      · obtain ⟨ad, h, _⟩ := hC.2.2 h; exact absurd h (by simp)
    have hx : xs = [] := List.eq_nil_of_length_eq_zero (hC.1.trans h0)
    subst hx
    clear hC
    go_enter Tryd.func57, Tryd.ntmps57
    go_wp2
    go_ret
    exact ⟨_, rfl, Kd.R_nil _ _ _ _ _, Below.refl _ _⟩
  | some A =>
    have hl : xs.length = n := hC.1
    have H := Aside0.mk hC
    clear hC
    go_enter Tryd.func57, Tryd.ntmps57
    go_wp2_with ((with_reducible refine gate_builtin (b := .append) (xs := #[.tmp 5, .tmp 6]) rfl ?_); at_builtin; refine Kd.R_append_rows (Kd.int .u8) (w0 := w) w.heap.size rfl (.tmp 5) (.tmp 6) 44 5 (.int .u8 0) 1 rfl Tryd.underlying44 info5 rfl (by decide) (by omega) (.slice (some ⟨w.heap.size, 0, none⟩) 0 0) [] xs (some A) n c (fun _ => True) (fun _ => False) rfl rfl ?aO ?aR (fun _ _ h => h) (fun _ h => h.elim) (fun _ _ => trivial) ?aB ?aS ?aL ?_)
    case aO => exact R_empty w
    case aR => exact Kd.C_alloc H.out _
    case aB => exact below_alloc (Below.refl _ _) _
    case aS => simp
    case aL => simp; omega
    intro v w1 ho hb hg hat
    have HO := Aside0.mk ho
    have HB := Aside0.mk hb
    obtain ⟨A', c', rfl, _, _⟩ := Kd.R_reads ho
    clear ho hb hg hat
    go_wp2
    go_ret
    exact ⟨_, rfl, by simpa using HO.out, HB.out⟩
theorem of_drew {w w1 : World} (h : Below w.drew.heap.size w.drew w1) : Below w.heap.size w w1 := ⟨h.os, h.tape, h.output, h.size, h.block⟩
theorem R_but {d : Kd Int} {e : Nat} {w w1 : World} {base g : Nat} {v : Value} {xs : List Int} (h : Kd.R d e w base (fun _ => True) v xs) (hg : g < base) (hk : ∀ k, k ≠ g → w1.heap[k]? = w.heap[k]?) : Kd.R d e w1 base (fun _ => True) v xs :=
  Kd.R_mono (Kd.R_step (ok := fun k => base ≤ k) (Kd.R_mono (Kd.R_bound h) (fun _ hk => hk.2.1)) (fun k ho _ => hk k (by omega))) (fun _ _ => trivial)
/-- Only block g and new ones changed. -/
structure Only (g : Nat) (w w' : World) : Prop where
  os : w'.os = w.os
  tape : w'.tape = w.tape
  output : w'.output = w.output
  size : w.heap.size ≤ w'.heap.size
  block : ∀ k, k < w.heap.size → k ≠ g → w'.heap[k]? = w.heap[k]?
theorem Only.of_below {w w' : World} (g : Nat) (h : Below w.heap.size w w') : Only g w w' := ⟨h.os, h.tape, h.output, h.size, fun k hk _ => h.block k hk⟩
theorem Only.below {g B : Nat} {w w' : World} (h : Only g w w') (hB : B ≤ g) (hs : B ≤ w.heap.size) : Below B w w' := ⟨h.os, h.tape, h.output, h.size, fun k hk => h.block k (by omega) (by omega)⟩
theorem Only.trans {g : Nat} {w w1 w2 : World} (h : Only g w w1) (k : Only g w1 w2) : Only g w w2 := ⟨k.os.trans h.os, k.tape.trans h.tape, k.output.trans h.output, Nat.le_trans h.size k.size, fun i hi hg => (k.block i (Nat.lt_of_lt_of_le hi h.size) hg).trans (h.block i hi hg)⟩
theorem below_thenB {B B' : Nat} {w w1 w2 : World} (h : Below B w w1) (k : Below B' w1 w2) (hB : B ≤ B') : Below B w w2 := ⟨k.os.trans h.os, k.tape.trans h.tape, k.output.trans h.output, Nat.le_trans h.size k.size, fun i hi => (k.block i (by omega)).trans (h.block i hi)⟩
theorem bonly {g : Nat} {w0 w w' : World} (h : Aside0 (Below w0.heap.size w0 w)) (k : Only g w w') (hg : w0.heap.size ≤ g) : Aside0 (Below w0.heap.size w0 w') := ⟨below_thenB h.out (k.below hg h.out.size) (Nat.le_refl _)⟩
theorem cell_same_blk {W W' : World} {g : Nat} (h : W'.heap[g]? = W.heap[g]?) (k : Nat) : W'.cell? ⟨g, k, none⟩ = W.cell? ⟨g, k, none⟩ := by
  unfold World.cell?; simp only [h]
theorem cell_set_ne {W : World} {g i j : Nat} (v : Value) (h : i ≠ j) : (W.setCell ⟨g, i, none⟩ v).cell? ⟨g, j, none⟩ = W.cell? ⟨g, j, none⟩ := World.cell?_setCell_other _ _ _ _ (by intro e; injection e; contradiction)
theorem cell_set_eq {W : World} {g i : Nat} {cs : Array Value} {t : TypeId} {u : Value} (v : Value) (hb : W.heap[g]? = some (.cells cs t (0, 0))) (h : W.cell? ⟨g, i, none⟩ = some u) : (W.setCell ⟨g, i, none⟩ v).cell? ⟨g, i, none⟩ = some v := by
  rw [blk_cell hb] at h
  have hi := (Array.getElem?_eq_some_iff.1 h).1
  rw [blk_cell (blk_set hb i v), Array.getElem?_setIfInBounds_self_of_lt hi]
theorem set_only (w : World) (g i : Nat) (v : Value) : Only g w (w.setCell ⟨g, i, none⟩ v) :=
  have b := (Below.refl 0 w).setCell (p := ⟨g, i, none⟩) (Nat.zero_le _) v
  ⟨b.os, b.tape, b.output, b.size, fun k _ hk => Below.heap_setCell _ _ _ k hk⟩
theorem drew_only (w : World) (g : Nat) : Only g w w.drew := Only.of_below g (below_drew (Below.refl _ _))
/-- The bytes of the place. -/
def sPlace : ByteArray := { data := #[102, 114, 97, 109, 101] }
/-- An error of the package, or none (number 0). -/
def ErrV (W : World) (c : Int) (v : Value) : Prop := (c = 0 ∧ v = .nilIface) ∨ (c ≠ 0 ∧ ErrP W c [sPlace] v)
theorem ErrV.below {W W' : World} (h : Aside0 (Below W.heap.size W W')) {c : Int} {v : Value} (e : ErrV W c v) : ErrV W' c v := e.imp id (fun e => ⟨e.1, e.2.below h⟩)
theorem Code_calls (v : Value) (c : Int) (w : World) (hg : Gerr w) (hv : ErrV w c v) :
    Calls Tryd.prog 18 #[v] w fun e w' => e = .returned (.int .i64 c) ∧ Below w.heap.size w w' := by
  rcases hv with ⟨rfl, rfl⟩ | ⟨_, hv⟩
  · refine (code_nil w).mono ?_
    rintro e w' ⟨rfl, rfl⟩
    exact ⟨rfl, Below.refl _ _⟩
  · exact code_err _ v c w hg hv
theorem C_one (w : World) (x : Int) : Kd.C (Kd.int .u8) (w.alloc (.cells #[.int .u8 x] 5)) (some ⟨w.heap.size, 0, none⟩) 1 [x] := by
  refine ⟨rfl, by decide, fun _ => ⟨⟨w.heap.size, 0, none⟩, rfl, fun j p hj => ?_⟩⟩
  cases j with
  | succ j => simp at hj
  | zero =>
    have hp : x = p := by simpa using hj
    subst hp
    refine ⟨[.int .u8 x], rfl, rfl, fun i u hu => ?_⟩
    cases i with
    | succ i => simp at hu
    | zero =>
      have hu : Value.int .u8 x = u := by simpa using hu
      subst hu
      exact cell_new w #[.int .u8 x] 5 0
theorem heap_only {g k : Nat} {w w' : World} {o : Obj} (hO : Only g w w') (hk : k ≠ g) (h : w.heap[k]? = some o) : w'.heap[k]? = some o := (hO.block k (heap_lt h) hk).trans h
theorem R_only {d : Kd Int} {e g base : Nat} {w w' : World} {ok : Nat → Prop} {v : Value} {xs : List Int} (h : Kd.R d e w base ok v xs) (hO : Only g w w') (hne : ∀ k, ok k → k ≠ g) : Kd.R d e w' base ok v xs :=
  Kd.R_step h (fun k ho hl => hO.block k hl (hne k ho))
theorem R_from {d : Kd Int} {e base : Nat} {w : World} {v : Value} {xs : List Int} (h : Kd.R d e w base (fun _ => True) v xs) : Kd.R d e w base (fun k => base ≤ k) v xs :=
  Kd.R_mono (Kd.R_bound h) (fun _ hk => hk.2.1)
theorem ErrV.nil {W : World} {v : Value} (h : ErrV W 0 v) : v = .nilIface := by
  rcases h with ⟨_, h⟩ | ⟨h, _⟩
  · exact h
  · exact absurd rfl h
theorem ErrV.err {W : World} {c : Int} {v : Value} (h : ErrV W c v) (hc : c ≠ 0) : ErrP W c [sPlace] v := by
  rcases h with ⟨h, _⟩ | ⟨_, h⟩
  · exact absurd h hc
  · exact h
end Go.Proofs.YtfijlaahifeimaaDoor.PE
