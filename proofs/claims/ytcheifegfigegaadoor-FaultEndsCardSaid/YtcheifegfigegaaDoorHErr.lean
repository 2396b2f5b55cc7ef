/- Errors by their contracts: errors.As at a target of the type of error numbers, over errors that fault.New and fault.Wrap made; fault.New; fault.Code. -/
import Derived.Test.YtcheifegfigegaaDoorHErrFacts
import Derived.Outline
namespace Go.Proofs.YtcheifegfigegaaDoor.PE
open Go.RowKit Go.Extern.Stop Go.Stop Go.Extern Go.Proofs.YtcheifegfigegaaDoorW.PrintWords Go.Proofs.YtcheifegfigegaaDoorW.PrintLast Go.Proofs.YtcheifegfigegaaDoorW.PrintMore
set_option linter.unusedVariables false
set_option linter.unusedSimpArgs false

theorem btrans {w w1 w2 : World} (h : Aside0 (Below w.heap.size w w1)) (k : Aside0 (Below w1.heap.size w1 w2)) : Aside0 (Below w.heap.size w w2) := ⟨below_then h.out h.out.size k.out⟩
theorem balloc {w w1 : World} (h : Aside0 (Below w.heap.size w w1)) (o : Obj) : Aside0 (Below w.heap.size w (w1.alloc o)) := ⟨below_alloc h.out o⟩
theorem bcellA {w w1 : World} (h : Aside0 (Below w.heap.size w w1)) {a : Addr} {v : Value} (hc : w.cell? a = some v) : w1.cell? a = some v := pw_cell_below h.out hc
theorem cell_new (w : World) (c : Array Value) (t : TypeId) (i : Nat) : (w.alloc (.cells c t)).cell? ⟨w.heap.size, i, none⟩ = c[i]? := World.cell?_alloc_new _ _ _ _
theorem heap_below {w w1 : World} (h : Aside0 (Below w.heap.size w w1)) {g : Nat} {o : Obj} (hg : w.heap[g]? = some o) : w1.heap[g]? = some o :=
  (h.out.block g (Array.getElem?_eq_some_iff.1 hg).1).trans hg
theorem heap_new (w : World) (o : Obj) : (w.alloc o).heap[w.heap.size]? = some o := heap_alloc_new w o
theorem heap_lt {w : World} {g : Nat} {o : Obj} (hg : w.heap[g]? = some o) : g < w.heap.size := (Array.getElem?_eq_some_iff.1 hg).1
theorem cell_of_heap {w : World} {g : Nat} {cs : Array Value} {t : TypeId} {fr : Nat × Nat} (hg : w.heap[g]? = some (.cells cs t fr)) (k : Nat) : w.cell? ⟨g, k, none⟩ = cs[k]? := by
  simp [World.cell?, hg]
theorem frozen_of_heap {w : World} {g : Nat} {cs : Array Value} {t : TypeId} (hg : w.heap[g]? = some (.cells cs t (0, 0))) (k : Nat) : w.frozen? ⟨g, k, none⟩ = false := by
  simp [World.frozen?, hg]

/-- v is an error of the number c, in memory W, that came through the places p (the outermost first). -/
def ErrP (W : World) (c : Int) : List ByteArray → Value → Prop
  | [], v => v = .iface 24 (.int .i64 c)
  | s :: p, v => ∃ (g : Nat) (v' : Value), v = .iface 45 (.pointer (some ⟨g, 0, none⟩)) ∧ W.heap[g]? = some (.cells #[.string s, v'] 48 (0, 0)) ∧ ErrP W c p v'
theorem ErrP.below {W W' : World} (h : Aside0 (Below W.heap.size W W')) {c : Int} : ∀ {p : List ByteArray} {v : Value}, ErrP W c p v → ErrP W' c p v
  | [], _, hv => hv
  | _ :: _, _, ⟨g, v', e, hg, hv⟩ => ⟨g, v', e, heap_below h hg, ErrP.below h hv⟩
theorem ErrP.iface {W : World} {c : Int} {p : List ByteArray} {v : Value} (h : ErrP W c p v) : ∃ t x, v = .iface t x := by
  cases p with
  | nil => exact ⟨_, _, h⟩
  | cons s p => obtain ⟨g, v', e, _⟩ := h; exact ⟨_, _, e⟩

set_option maxHeartbeats 4000000 in
set_option maxRecDepth 100000 in
theorem as_calls (p : List ByteArray) (v : Value) (c : Int) (t a : Addr) (old : Value) (w : World) (hv : ErrP w c p v) (ha : w.cell? a = some (.pointer (some t))) (ht : w.cell? t = some old) (hf : w.frozen? t = false) :
    Calls Tryd.prog 27 #[v, .iface 39 (.pointer (some t)), .agg #[.pointer (some ⟨4, 39, none⟩), .pointer (some a), .int .u64 150], .iface 68 (.agg #[.pointer (some ⟨4, 24, none⟩)])] w
      fun e w' => e = .returned (.bool true) ∧ ∃ w1, Below w.heap.size w w1 ∧ w' = w1.setCell t (.int .i64 c) := by
  have hTO := @run_callFunc_extern Tryd.prog 22 _ ReflectliteType.typeOf Tryd.func22 (by kernel_rfl) (by kernel_rfl) (by kernel_rfl) (by kernel_rfl)
  have hAT := @run_callFunc_extern Tryd.prog 68 _ (ReflectliteType.relation "AssignableTo" ReflectliteType.assignableTo) Tryd.func68 (by kernel_rfl) (by kernel_rfl) (by kernel_rfl) (by kernel_rfl)
  have hVE := @run_callFunc_extern Tryd.prog 29 _ (ReflectliteValue.method (ReflectliteValue.valueError "reflectlite.Value.Elem" 0) ReflectliteValue.elem) Tryd.func29 (by kernel_rfl) (by kernel_rfl) (by kernel_rfl) (by kernel_rfl)
  have hVS := @run_callFunc_extern Tryd.prog 30 _ ReflectliteValue.set Tryd.func30 (by kernel_rfl) (by kernel_rfl) (by kernel_rfl) (by kernel_rfl)
  have hVO := @run_callFunc_extern Tryd.prog 24 _ (fun args => ReflectliteValue.unpack (args.getD 0 (.tuple #[]))) Tryd.func24 (by kernel_rfl) (by kernel_rfl) (by kernel_rfl) (by kernel_rfl)
  have tE := typeOfE
  have tS := typeOfS
  have mA := methodAssignableTo
  have aE := assignableE
  have aS := assignableS
  have vE := valueOfE
  have mU := methodUnwrap
  have xA := assertAs
  have xU := assertUn
  have HV := Aside0.mk hv
  have HA := Aside0.mk ha
  have HT := Aside0.mk ht
  have HF := Aside0.mk hf
  clear hv ha ht hf
  go_enter Tryd.func27, Tryd.ntmps27
  go_wp2
  go_loopg [0] p.length (fun n x W' => ∃ q : List ByteArray, Aside0 (q.length = n) ∧ Aside0 (ErrP w c q x) ∧ Aside0 (Below (w.alloc (.cells #[.pointer (some ⟨4, 39, none⟩), .pointer (some a), .int .u64 150] 56)).heap.size (w.alloc (.cells #[.pointer (some ⟨4, 39, none⟩), .pointer (some a), .int .u64 150] 56)) W'))
  case atStart => exact ⟨p, ⟨rfl⟩, HV, ⟨Below.refl _ _⟩⟩
  case round =>
    obtain ⟨q, hq, HX, HB⟩ := hrel
    have BW : Aside0 (Below w.heap.size w wr) := btrans (balloc ⟨Below.refl _ _⟩ _) HB
    have hG := heap_below HB (heap_new w (.cells #[.pointer (some ⟨4, 39, none⟩), .pointer (some a), .int .u64 150] 56))
    have c0 : wr.cell? ⟨w.heap.size, 0, none⟩ = some (.pointer (some ⟨4, 39, none⟩)) := cell_of_heap hG 0
    have c1 : wr.cell? ⟨w.heap.size, 1, none⟩ = some (.pointer (some a)) := cell_of_heap hG 1
    have c2 : wr.cell? ⟨w.heap.size, 2, none⟩ = some (.int .u64 150) := cell_of_heap hG 2
    clear hG
    cases q with
    | nil =>
      obtain rfl : u0 = .iface 24 (.int .i64 c) := HX.out
      have eV := elemVP a t wr (bcellA BW HA.out)
      have htl : t.block < w.heap.size := World.block_lt_of_cell? w t HT.out
      have hts : t.block < wr.heap.size := Nat.lt_of_lt_of_le htl BW.out.size
      have eS := setE t ⟨wr.heap.size, 0, none⟩ c old (wr.alloc (.cells #[.int .i64 c] 24)) (cell_new _ _ _ 0) (by rw [World.cell?_alloc_lt _ _ t hts]; exact bcellA BW HT.out) (by rw [World.frozen?_alloc_old _ _ t (Nat.ne_of_lt hts), BW.out.frozen htl]; exact HF.out)
      clear htl hts
      go_wp2
      go_ret
      exact ⟨rfl, _, below_alloc BW.out _, rfl⟩
    | cons s q =>
      obtain ⟨g, v', e, hg, hv'⟩ := HX.out
      subst e
      obtain ⟨ty, x, rfl⟩ := hv'.iface
      have HX' := Aside0.mk hv'
      have d1 : wr.cell? ⟨g, 1, none⟩ = some (.iface ty x) := cell_of_heap (heap_below BW hg) 1
      have d0 : wr.cell? ⟨g, 0, none⟩ = some (.string s) := cell_of_heap (heap_below BW hg) 0
      clear hg hv' HX
      go_wp2
      go_roundg q.length
      case measure => have := hq.out; simp at this; omega
      case rel => exact ⟨q, ⟨rfl⟩, HX', HB⟩

theorem setCell_below {w w1 W : World} (h : Below w.heap.size w w1) {g : Nat} (hg : w.heap.size ≤ g) (u : Value) : Below w.heap.size w (w1.setCell ⟨g, 0, none⟩ u) := h.setCell hg u

set_option maxHeartbeats 4000000 in
set_option maxRecDepth 100000 in
theorem As_calls (p : List ByteArray) (v : Value) (c : Int) (t : Addr) (old : Value) (w : World) (hg : w.cell? ⟨0, 0, none⟩ = some (.iface 68 (.agg #[.pointer (some ⟨4, 26, none⟩)]))) (hv : ErrP w c p v) (ht : w.cell? t = some old) (hf : w.frozen? t = false) :
    Calls Tryd.prog 17 #[v, .iface 39 (.pointer (some t))] w
      fun e w' => e = .returned (.bool true) ∧ ∃ w1, Below w.heap.size w w1 ∧ w' = w1.setCell t (.int .i64 c) := by
  have hVO := @run_callFunc_extern Tryd.prog 24 _ (fun args => ReflectliteValue.unpack (args.getD 0 (.tuple #[]))) Tryd.func24 (by kernel_rfl) (by kernel_rfl) (by kernel_rfl) (by kernel_rfl)
  have hVT := @run_callFunc_extern Tryd.prog 25 _ (ReflectliteValue.methodAny (ReflectliteValue.valueError "reflectlite.Value.Type" 0) (fun t _ _ _ => ReflectliteType.toType t)) Tryd.func25 (by kernel_rfl) (by kernel_rfl) (by kernel_rfl) (by kernel_rfl)
  have hVN := @run_callFunc_extern Tryd.prog 26 _ (ReflectliteValue.method (ReflectliteValue.valueError "reflectlite.Value.IsNil" 0) ReflectliteValue.isNil) Tryd.func26 (by kernel_rfl) (by kernel_rfl) (by kernel_rfl) (by kernel_rfl)
  have hK := @run_callFunc_extern Tryd.prog 58 _ (ReflectliteType.abiMethod fun t => do pure (.int .u8 (← Rtype.kind t))) Tryd.func58 (by kernel_rfl) (by kernel_rfl) (by kernel_rfl) (by kernel_rfl)
  have hE := @run_callFunc_extern Tryd.prog 70 _ (ReflectliteType.method ReflectliteType.elem) Tryd.func70 (by kernel_rfl) (by kernel_rfl) (by kernel_rfl) (by kernel_rfl)
  have hI := @run_callFunc_extern Tryd.prog 71 _ (ReflectliteType.relation "Implements" ReflectliteType.implements_) Tryd.func71 (by kernel_rfl) (by kernel_rfl) (by kernel_rfl) (by kernel_rfl)
  have vP := valueOfP
  have tP := typeP
  have mK := methodKind
  have kP := kindP
  have kE := kindE
  have mE := methodElem
  have eP := elemP
  have mI := methodImplements
  have iE := implementsE
  have nP := isNilP ⟨w.heap.size, 0, none⟩ t ((w.alloc (.cells #[.pointer (some t)] 39)).alloc (.cells #[.pointer (some ⟨4, 39, none⟩), .pointer (some ⟨w.heap.size, 0, none⟩), .int .u64 150] 56)) (by rw [World.cell?_alloc_lt _ _ _ (by simp)]; exact cell_new _ _ _ 0)
  have hlt : 0 < w.heap.size := World.block_lt_of_cell? w _ hg
  have hg2 : ((w.alloc (.cells #[.pointer (some t)] 39)).alloc (.cells #[.pointer (some ⟨4, 39, none⟩), .pointer (some ⟨w.heap.size, 0, none⟩), .int .u64 150] 56)).cell? ⟨0, 0, none⟩ = some (.iface 68 (.agg #[.pointer (some ⟨4, 26, none⟩)])) := by
    rw [World.cell?_alloc_lt _ _ ⟨0, 0, none⟩ (by simp), World.cell?_alloc_lt _ _ ⟨0, 0, none⟩ hlt]; exact hg
  obtain ⟨ty, x, rfl⟩ := hv.iface
  have HV := Aside0.mk hv
  have HT := Aside0.mk ht
  have HF := Aside0.mk hf
  have htl := World.block_lt_of_cell? w t ht
  clear hv ht hf hg
  go_enter Tryd.func17, Tryd.ntmps17
  go_wp2_with fail
  refine (as_calls p _ c t ⟨w.heap.size, 0, none⟩ old _ (HV.out.below (balloc (balloc ⟨Below.refl _ _⟩ _) _)) (by rw [World.cell?_alloc_lt _ _ _ (by simp)]; exact cell_new _ _ _ 0) (by rw [World.cell?_alloc_lt _ _ t (by simp; omega), World.cell?_alloc_lt _ _ t htl]; exact HT.out) (by rw [World.frozen?_alloc_old _ _ t (by simp; omega), World.frozen?_alloc_old _ _ t (Nat.ne_of_lt htl)]; exact HF.out)).mono ?_
  rintro e w' ⟨rfl, w1, hb, rfl⟩
  go_wp2
  go_ret
  exact ⟨rfl, w1, below_then (below_alloc (below_alloc (Below.refl _ _) _) _) (by simp; omega) hb, rfl⟩

/-- The variable errors.errorType holds the handle of the type error. -/
def Gerr (w : World) : Prop := w.cell? ⟨0, 0, none⟩ = some (.iface 68 (.agg #[.pointer (some ⟨4, 26, none⟩)]))
theorem Gerr.below {w w1 : World} (h : Gerr w) (hb : Aside0 (Below w.heap.size w w1)) : Gerr w1 := bcellA hb h

set_option maxHeartbeats 4000000 in
theorem code_nil (w : World) : Calls Tryd.prog 11 #[.nilIface] w fun e w' => e = .returned (.int .i64 0) ∧ w' = w := by
  go_enter Tryd.func11, Tryd.ntmps11
  go_wp2
  go_ret
  exact ⟨rfl, rfl⟩
set_option maxHeartbeats 4000000 in
theorem code_err (p : List ByteArray) (v : Value) (c : Int) (w : World) (hg : Gerr w) (hv : ErrP w c p v) :
    Calls Tryd.prog 11 #[v] w fun e w' => e = .returned (.int .i64 c) ∧ Below w.heap.size w w' := by
  obtain ⟨ty, x, rfl⟩ := hv.iface
  have HG := Aside0.mk hg
  have HV := Aside0.mk hv
  clear hg hv
  go_enter Tryd.func11, Tryd.ntmps11
  go_wp2_with fail
  refine (As_calls p _ c ⟨w.heap.size, 0, none⟩ _ _ (HG.out.below (balloc ⟨Below.refl _ _⟩ _)) (HV.out.below (balloc ⟨Below.refl _ _⟩ _)) (cell_new _ _ _ 0) (by simp)).mono ?_
  rintro e w' ⟨rfl, w1, hb, rfl⟩
  have hlt : w.heap.size < w1.heap.size := by have := hb.size; simp at this; omega
  have hc : w1.cell? ⟨w.heap.size, 0, none⟩ = some (.int .i64 0) := bcellA ⟨hb⟩ (cell_new _ _ _ 0)
  have B := Aside0.mk (below_then (below_alloc (Below.refl _ _) _) (by simp) hb)
  clear hb
  go_wp2
  go_ret
  exact ⟨rfl, B.out.setCell (Nat.le_refl _) _⟩
set_option maxHeartbeats 4000000 in
theorem new_err (c : Int) (s : ByteArray) (w : World) (hc : (c == 0) = false) :
    Calls Tryd.prog 21 #[.int .i64 c, .string s] w fun e w' => ∃ v, e = .returned v ∧ ErrP w' c [s] v ∧ Below w.heap.size w w' := by
  go_enter Tryd.func21, Tryd.ntmps21
  go_wp2
  go_ret
  exact ⟨_, rfl, ⟨w.heap.size, _, rfl, heap_new _ _, rfl⟩, below_alloc (Below.refl _ _) _⟩
set_option maxHeartbeats 4000000 in
theorem new_ok (s : ByteArray) (w : World) :
    Calls Tryd.prog 21 #[.int .i64 0, .string s] w fun e w' => e = .returned .nilIface ∧ w' = w := by
  go_enter Tryd.func21, Tryd.ntmps21
  go_wp2
  go_ret
  exact ⟨rfl, rfl⟩
end Go.Proofs.YtcheifegfigegaaDoor.PE
