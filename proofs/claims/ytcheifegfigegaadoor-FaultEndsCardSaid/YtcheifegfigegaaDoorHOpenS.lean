/- fault: the statements' arguments, opened: rows of texts. -/
import Derived.Test.YtcheifegfigegaaDoorHOpen
import Derived.Test.YtcheifegfigegaaDoorHErr
import Derived.WalkKit
import Derived.ProofKit
import Derived.KernelRfl
import Derived.DataShut
namespace Go.Proofs.YtcheifegfigegaaDoor.PE
open Go.RowKit Go.Proofs.YtcheifegfigegaaDoorW.PrintWords Go.Proofs.YtcheifegfigegaaDoor.Open Go.ChangeShapes Go.WideShapes Go.ChangeAt
set_option linter.unusedVariables false
theorem decStrs {H : Type} {enc : TypeId × Value → H} {W : World} : Dec enc Tryd.prog W (Kd.slice 9 Kd.string) 22 (fun xs => ∀ x ∈ xs, x.size ≤ maxLen) :=
  Dec.slice (t := 22) (e := 9) Tryd.underlying22 (by kernel_rfl) (Dec.string Tryd.underlying9)
set_option maxRecDepth 100000 in
theorem openStrs {H : Type} {enc : TypeId × Value → H} {W : World} {base : Nat} {v : Value} {d : DataW H} {p : List MemPlace} (hw : Value.okWide Tryd.prog W .any base 22 v) (h : DataW.Trod enc Tryd.prog W 0 (fun _ => true) true 22 v d p) :
    ∃ (l : List ByteArray) (A : Option Addr) (c : Nat), v = .slice A l.length c ∧ l.length ≤ c ∧ (∀ s ∈ l, s.size ≤ maxLen) ∧ Kd.C Kd.string W A l.length l := by
  obtain ⟨a, n, c, rfl⟩ := okWide_slice Tryd.underlying22 hw
  obtain ⟨l, hk, hok⟩ := decStrs.value h
  obtain ⟨A, c', e, hl, hC⟩ := hk
  have e2 : Value.slice a n c = .slice A l.length c' := by
    have e3 : [Value.slice a n c] = [.slice A l.length c'] := e
    injection e3
  rw [e2]
  exact ⟨l, A, c', rfl, hl, hok, hC⟩
end Go.Proofs.YtcheifegfigegaaDoor.PE
