/- frame: the statements' arguments, opened: a telegram, bytes. -/
import Derived.Test.YtnigocoanlaiiaaDoorHOpen
import Derived.Test.YtnigocoanlaiiaaDoorHDec
import Derived.WalkKit
import Derived.ProofKit
import Derived.KernelRfl
import Derived.DataShut
namespace Go.Proofs.YtnigocoanlaiiaaDoor.PE
open Go.RowKit Go.Proofs.YtnigocoanlaiiaaDoorW.PrintWords Go.Proofs.YtnigocoanlaiiaaDoor.Open Go.ChangeShapes Go.WideShapes Go.ChangeAt
set_option linter.unusedVariables false
abbrev kFrame : Kd (Int × Int × List Int) := Kd.pair (Kd.int .i64) (Kd.pair (Kd.int .i64) (Kd.slice 5 (Kd.int .u8)))
theorem bytes_of_wf {xs : List Int} (h : ∀ x ∈ xs, (Lit.int .u8 x).wf = true) : Bytes xs := by
  intro y hy
  have h2 := (Lit.wf_int_iff .u8 y).1 (h y hy)
  have e1 : IntKind.min .u8 = 0 := by decide
  have e2 : IntKind.max .u8 = 255 := by decide
  rw [e1, e2] at h2
  exact h2
theorem decBytes {H : Type} {enc : TypeId × Value → H} {W : World} : Dec enc Tryd.prog W (Kd.slice 5 (Kd.int .u8)) 22 (fun xs => ∀ x ∈ xs, (Lit.int .u8 x).wf = true) :=
  Dec.slice (t := 22) (e := 5) Tryd.underlying22 (by kernel_rfl) (Dec.int Tryd.underlying5)
theorem decFrame {H : Type} {enc : TypeId × Value → H} {W : World} : Dec enc Tryd.prog W kFrame 24 (fun x => (Lit.int .i64 x.1).wf = true ∧ (Lit.int .i64 x.2.1).wf = true ∧ ∀ y ∈ x.2.2, (Lit.int .u8 y).wf = true) :=
  by
  have hi : Dec enc Tryd.prog W (Kd.int .i64) 3 (fun n => (Lit.int .i64 n).wf = true) := Dec.int Tryd.underlying3
  have h := Dec.struct Tryd.underlying24 (total := 3) (by kernel_rfl) (DecF.cons (o := 0) rfl (by kernel_rfl) hi (DecF.cons rfl (by kernel_rfl) hi (DecF.last rfl (by kernel_rfl) (decBytes (enc := enc) (W := W)))))
  exact h
set_option maxRecDepth 100000 in
theorem openFrame {H : Type} {enc : TypeId × Value → H} {W : World} {base : Nat} {v : Value} {d : DataW H} {p : List MemPlace} (hw : Value.okWide Tryd.prog W .any base 24 v) (h : DataW.Trod enc Tryd.prog W 0 (fun _ => true) true 24 v d p) :
    ∃ (ch sq : Int) (xs : List Int) (A : Option Addr) (c : Nat), v = .agg #[.int .i64 ch, .int .i64 sq, .slice A xs.length c] ∧ xs.length ≤ c ∧ Bytes xs ∧ Kd.C (Kd.int .u8) W A xs.length xs := by
  obtain ⟨cs, rfl, _⟩ := okWide_struct Tryd.underlying24 hw
  obtain ⟨⟨ch, sq, xs⟩, hk, hok⟩ := decFrame.value h
  obtain ⟨_, _, e, rfl, ⟨_, _, rfl, rfl, ⟨A, c, rfl, hl, hC⟩⟩⟩ := hk
  refine ⟨ch, sq, xs, A, c, ?_, hl, bytes_of_wf hok.2.2, hC⟩
  have e2 : cs.toList = _ := e
  rw [← Array.toArray_toList (xs := cs), e2]
  rfl
set_option maxRecDepth 100000 in
theorem openBytes {H : Type} {enc : TypeId × Value → H} {W : World} {base : Nat} {v : Value} {d : DataW H} {p : List MemPlace} (hw : Value.okWide Tryd.prog W .any base 22 v) (h : DataW.Trod enc Tryd.prog W 0 (fun _ => true) true 22 v d p) :
    ∃ (l : List Int) (A : Option Addr) (c : Nat), v = .slice A l.length c ∧ l.length ≤ c ∧ Bytes l ∧ Kd.C (Kd.int .u8) W A l.length l := by
  obtain ⟨a, n, c, rfl⟩ := okWide_slice Tryd.underlying22 hw
  obtain ⟨l, hk, hok⟩ := decBytes.value h
  obtain ⟨A, c', e, hl, hC⟩ := hk
  have e2 : Value.slice a n c = .slice A l.length c' := by
    have e3 : [Value.slice a n c] = [.slice A l.length c'] := e
    injection e3
  rw [e2]
  exact ⟨l, A, c', rfl, hl, bytes_of_wf hok, hC⟩
end Go.Proofs.YtnigocoanlaiiaaDoor.PE
