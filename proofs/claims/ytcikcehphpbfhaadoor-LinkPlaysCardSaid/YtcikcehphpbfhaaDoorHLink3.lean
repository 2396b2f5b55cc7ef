/- link: Take. -/
import Derived.Test.YtcikcehphpbfhaaDoorHLink2
namespace Go.Proofs.YtcikcehphpbfhaaDoor.PE
open Go.RowKit Go.Extern.Stop Go.Stop Go.Extern Go.Proofs.YtcikcehphpbfhaaDoorW.PrintWords Go.Proofs.YtcikcehphpbfhaaDoorW.PrintLast Go.Proofs.YtcikcehphpbfhaaDoorW.PrintMore
set_option linter.unusedVariables false
set_option linter.unusedSimpArgs false
/-- The bytes of "link". -/
def sLink : ByteArray := { data := #[108, 105, 110, 107] }
set_option maxHeartbeats 8000000 in
set_option maxRecDepth 100000 in
theorem take_arg (g : Nat) (ch sq : Int) (A : Option Addr) (n cap : Nat) (w : World) (h : ch < 0 ∨ 15 < ch ∨ sq < 0 ∨ 256 ≤ sq ∨ 16 < n) (hn : n ≤ 1000000) :
    Calls Tryd.prog 15 #[.pointer (some ⟨g, 0, none⟩), .agg #[.int .i64 ch, .int .i64 sq, .slice A n cap]] w fun e w' => ∃ v, e = .returned v ∧ ErrP w' 1 [sLink] v ∧ Below w.heap.size w w' := by
  have B : Aside0 (Below w.heap.size w (w.alloc (.cells #[.int .i64 ch, .int .i64 sq, .slice A n cap] 30))) := balloc ⟨Below.refl _ _⟩ _
  have key : ∀ (b0 b1 b2 b3 b4 : Bool), decide (ch < 0) = b0 → decide (15 < ch) = b1 → decide (sq < 0) = b2 → decide (256 ≤ sq) = b3 → decide (16 < (n : Int)) = b4 → (b0 || b1 || b2 || b3 || b4) = true → Calls Tryd.prog 15 #[.pointer (some ⟨g, 0, none⟩), .agg #[.int .i64 ch, .int .i64 sq, .slice A n cap]] w fun e w' => ∃ v, e = .returned v ∧ ErrP w' 1 [sLink] v ∧ Below w.heap.size w w' := by
    clear h
    intro b0 b1 b2 b3 b4 d0 d1 d2 d3 d4 hb
    have hk : b0 = true ∨ (b0 = false ∧ b1 = true) ∨ (b0 = false ∧ b1 = false ∧ b2 = true) ∨ (b0 = false ∧ b1 = false ∧ b2 = false ∧ b3 = true) ∨ (b0 = false ∧ b1 = false ∧ b2 = false ∧ b3 = false ∧ b4 = true) := by
      revert hb; cases b0 <;> cases b1 <;> cases b2 <;> cases b3 <;> cases b4 <;> simp
    clear hb
    rcases hk with rfl | ⟨rfl, rfl⟩ | ⟨rfl, rfl, rfl⟩ | ⟨rfl, rfl, rfl, rfl⟩ | ⟨rfl, rfl, rfl, rfl, rfl⟩
    all_goals
      go_enter Tryd.func15, Tryd.ntmps15
      go_wp2_with fail
      refine (new_err 1 sLink _ (by decide)).mono ?_
      rintro e w2 ⟨v, rfl, hE, hb2⟩
      have HE := Aside0.mk hE
      have B2 := btrans B ⟨hb2⟩
      clear hE hb2
      go_wp2_with fail
      go_ret
      exact ⟨_, rfl, HE.out, B2.out⟩
  refine key _ _ _ _ _ rfl rfl rfl rfl rfl ?_
  simp only [Bool.or_eq_true, decide_eq_true_eq]
  omega
end Go.Proofs.YtcikcehphpbfhaaDoor.PE
