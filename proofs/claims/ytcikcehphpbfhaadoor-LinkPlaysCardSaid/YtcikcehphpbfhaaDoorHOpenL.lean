/- link: the statements' arguments, opened: a telegram, rows of acts, rows of rows. -/
import Derived.Test.YtcikcehphpbfhaaDoorHOpen
import Derived.Test.YtcikcehphpbfhaaDoorProg
import Derived.Test.YtcikcehphpbfhaaDoorWMore
import Derived.WalkKit
import Derived.ProofKit
import Derived.KernelRfl
namespace Go.Proofs.YtcikcehphpbfhaaDoor.PE
open Go.RowKit Go.Proofs.YtcikcehphpbfhaaDoorW.PrintWords Go.Proofs.YtcikcehphpbfhaaDoor.Open Go.ChangeShapes Go.WideShapes Go.ChangeAt
set_option linter.unusedVariables false
/-- A telegram's kind. -/
abbrev kFrame : Kd (Int × Int × List Int) := Kd.pair (Kd.int .i64) (Kd.pair (Kd.int .i64) (Kd.slice 5 (Kd.int .u8)))
abbrev kAct : Kd (Bool × Int × Int × List Int) := Kd.pair Kd.bool kFrame
theorem decBytes {H : Type} {enc : TypeId × Value → H} {W : World} : Dec enc Tryd.prog W (Kd.slice 5 (Kd.int .u8)) 28 (fun xs => ∀ x ∈ xs, (Lit.int .u8 x).wf = true) :=
  Dec.slice (t := 28) (e := 5) Tryd.underlying28 (by kernel_rfl) (Dec.int Tryd.underlying5)
theorem decFrame {H : Type} {enc : TypeId × Value → H} {W : World} : ∃ ok, Dec enc Tryd.prog W kFrame 30 ok :=
  ⟨_, Dec.struct Tryd.underlying30 (total := 3) (by kernel_rfl) (DecF.cons rfl (by kernel_rfl) (Dec.int Tryd.underlying3) (DecF.cons rfl (by kernel_rfl) (Dec.int Tryd.underlying3) (DecF.last rfl (by kernel_rfl) decBytes)))⟩
theorem decAct {H : Type} {enc : TypeId × Value → H} {W : World} : ∃ ok, Dec enc Tryd.prog W kAct 32 ok := by
  obtain ⟨ok, h⟩ := decFrame (enc := enc) (W := W)
  exact ⟨_, Dec.struct Tryd.underlying32 (total := 4) (by kernel_rfl) (DecF.cons rfl (by kernel_rfl) (Dec.bool Tryd.underlying4) (DecF.last rfl (by kernel_rfl) h))⟩
set_option maxRecDepth 100000 in
theorem openFrame {H : Type} {enc : TypeId × Value → H} {W : World} {base : Nat} {v : Value} {d : DataW H} {p : List MemPlace} (hw : Value.okWide Tryd.prog W .any base 30 v) (h : DataW.Trod enc Tryd.prog W 0 (fun _ => true) true 30 v d p) :
    ∃ (ch sq : Int) (xs : List Int) (A : Option Addr) (c : Nat), v = .agg #[.int .i64 ch, .int .i64 sq, .slice A xs.length c] ∧ xs.length ≤ c ∧ Kd.C (Kd.int .u8) W A xs.length xs := by
  obtain ⟨cs, rfl, _⟩ := okWide_struct Tryd.underlying30 hw
  obtain ⟨ok, hd⟩ := decFrame (enc := enc) (W := W)
  obtain ⟨⟨ch, sq, xs⟩, hk, _⟩ := hd.value h
  obtain ⟨_, _, e, rfl, ⟨_, _, rfl, rfl, ⟨A, c, rfl, hl, hC⟩⟩⟩ := hk
  refine ⟨ch, sq, xs, A, c, ?_, hl, hC⟩
  have e2 : cs.toList = _ := e
  rw [← Array.toArray_toList (xs := cs), e2]
  rfl
set_option maxRecDepth 100000 in
theorem openActs {H : Type} {enc : TypeId × Value → H} {W : World} {base : Nat} {v : Value} {d : DataW H} {p : List MemPlace} (hw : Value.okWide Tryd.prog W .any base 22 v) (h : DataW.Trod enc Tryd.prog W 0 (fun _ => true) true 22 v d p) :
    ∃ (l : List (Bool × Int × Int × List Int)) (A : Option Addr) (c : Nat), v = .slice A l.length c ∧ l.length ≤ c ∧ Kd.C kAct W A l.length l := by
  obtain ⟨a, n, c, rfl⟩ := okWide_slice Tryd.underlying22 hw
  obtain ⟨ok, hd⟩ := decAct (enc := enc) (W := W)
  obtain ⟨l, hk, _⟩ := (Dec.slice (k := kAct) (t := 22) (e := 32) Tryd.underlying22 (by kernel_rfl) hd).value h
  obtain ⟨A, c', e, hl, hC⟩ := hk
  have e2 : Value.slice a n c = .slice A l.length c' := by
    have e3 : [Value.slice a n c] = [.slice A l.length c'] := e
    injection e3
  rw [e2]
  exact ⟨l, A, c', rfl, hl, hC⟩
abbrev kRows : Kd (List Int) := Kd.slice 5 (Kd.int .u8)
set_option maxRecDepth 100000 in
theorem openRows {H : Type} {enc : TypeId × Value → H} {W : World} {base : Nat} {v : Value} {d : DataW H} {p : List MemPlace} (hw : Value.okWide Tryd.prog W .any base 51 v) (h : DataW.Trod enc Tryd.prog W 0 (fun _ => true) true 51 v d p) :
    ∃ (l : List (List Int)) (A : Option Addr) (c : Nat), v = .slice A l.length c ∧ l.length ≤ c ∧ Kd.C kRows W A l.length l := by
  obtain ⟨a, n, c, rfl⟩ := okWide_slice Tryd.underlying51 hw
  obtain ⟨l, hk, _⟩ := (Dec.slice (k := kRows) (t := 51) (e := 28) Tryd.underlying51 (by kernel_rfl) decBytes).value h
  obtain ⟨A, c', e, hl, hC⟩ := hk
  have e2 : Value.slice a n c = .slice A l.length c' := by
    have e3 : [Value.slice a n c] = [.slice A l.length c'] := e
    injection e3
  rw [e2]
  exact ⟨l, A, c', rfl, hl, hC⟩
end Go.Proofs.YtcikcehphpbfhaaDoor.PE
