/- FaultIs' walk. -/
import Derived.Test.YtcheifegfigegaaDoorHMade
namespace Go.Proofs.YtcheifegfigegaaDoor.PE
open Go.RowKit Go.Extern.Stop Go.Stop Go.Extern Go.Proofs.YtcheifegfigegaaDoorW.PrintWords Go.Proofs.YtcheifegfigegaaDoorW.PrintLast Go.Proofs.YtcheifegfigegaaDoorW.PrintMore
set_option linter.unusedVariables false
set_option linter.unusedSimpArgs false
theorem FIsEV (n m : Int) (q : List ByteArray) (v : Value) (w : World) (hg : Gerr w) (hv : EV w n q v) :
    Calls Tryd.prog 15 #[v, .int .i64 m] w fun e w' => e = .returned (.bool (n == m)) ∧ Below w.heap.size w w' := by
  rcases hv with ⟨rfl, rfl⟩ | ⟨h, hv⟩
  · refine (FIs_nil m w).mono ?_
    rintro e w' ⟨rfl, rfl⟩
    exact ⟨by rw [show (m == 0) = ((0 : Int) == m) by rw [Bool.eq_iff_iff]; simp; omega], Below.refl _ _⟩
  · exact FIs_err q v n m w hg hv
set_option maxHeartbeats 8000000 in
set_option maxRecDepth 100000 in
theorem fis_calls (n m : Int) (l : List ByteArray) (A : Option Addr) (c : Nat) (w : World) (hC : Kd.C Kd.string w A l.length l) (hcc : l.length ≤ c) (hg : Gerr w) :
    Calls Tryd.prog 4 #[.int .i64 n, .int .i64 m, .slice A l.length c] w fun e w' => e = .returned (.bool true) ∧ Below w.heap.size w w' := by
  have HG := Aside0.mk hg
  have HC := Aside0.mk hC
  have HCC := Aside0.mk hcc
  clear hg hC hcc
  by_cases hz : l.length = 0
  · obtain rfl := List.eq_nil_of_length_eq_zero hz
    clear hz
    go_enter Tryd.func4, Tryd.ntmps4
    go_wp2_with fail
    refine (fsmall_calls w HG.out).mono ?_
    rintro e w1 ⟨rfl, hb⟩
    have B1 := Aside0.mk hb
    clear hb
    go_wp2_with fail
    go_ret
    exact ⟨rfl, B1.out⟩
  · have z1 : ((l.length : Int) == 0) = false := by simp only [beq_eq_false_iff_ne]; omega
    have z2 : (l.length == 0) = false := by simp only [beq_eq_false_iff_ne]; omega
    by_cases h50 : 50 < l.length
    · have d5 : decide (50 < l.length) = true := decide_eq_true h50
      go_enter Tryd.func4, Tryd.ntmps4
      go_wp2_with fail
      refine (fsmall_calls w HG.out).mono ?_
      rintro e w1 ⟨rfl, hb⟩
      have B1 := Aside0.mk hb
      clear hb
      go_wp2_with fail
      go_ret
      exact ⟨rfl, B1.out⟩
    · have d5 : decide (50 < l.length) = false := decide_eq_false h50
      have HL := Aside0.mk (show 1 ≤ l.length ∧ l.length ≤ 50 by omega)
      go_enter Tryd.func4, Tryd.ntmps4
      go_wp2_with fail
      refine (fsmall_calls w HG.out).mono ?_
      rintro e w1 ⟨rfl, hb⟩
      have B1 := Aside0.mk hb
      clear hb
      go_wp2_with fail
      refine (Made_calls n l A c w1 (Kd.C_below HC.out B1.out) HCC.out HL.out).mono ?_
      rintro e w2 ⟨v, pv, rfl, hv, -, hb⟩
      have E2 := Aside0.mk hv
      have B2 := btrans B1 ⟨hb⟩
      clear hv hb B1
      go_wp2_with fail
      refine (FIsEV n m _ v w2 (HG.out.below B2) E2.out).mono ?_
      rintro e w3 ⟨rfl, hb⟩
      have B3 := btrans B2 ⟨hb⟩
      clear hb B2 E2
      go_wp2_with fail
      refine (FIs_err [] _ n n w3 (HG.out.below B3) rfl).mono ?_
      rintro e w4 ⟨rfl, hb⟩
      have B4 := btrans B3 ⟨hb⟩
      clear hb B3
      have hnn : (n == n) = true := by simp
      rw [hnn]
      go_wp2_with fail
      refine (FIs_nil m w4).mono ?_
      rintro e wz ⟨rfl, hz⟩
      have hz := hz.symm
      subst hz
      go_wp2_with fail
      go_ret
      exact ⟨rfl, B4.out⟩
theorem fis_walk (n m : Int) (l : List ByteArray) (A : Option Addr) (c : Nat) (w : World) (_ : (Lit.int .i64 n).wf = true) (_ : (Lit.int .i64 m).wf = true) (hC : Kd.C Kd.string w A l.length l) (hl : l.length ≤ c) (hS : ∀ s ∈ l, s.size ≤ maxLen) (hg : Gerr w) :
    Calls Tryd.prog 4 #[.int .i64 n, .int .i64 m, .slice A l.length c] w fun e w' => e = .returned (.bool true) ∧ Below w.heap.size w w' := fis_calls n m l A c w hC hl hg
end Go.Proofs.YtcheifegfigegaaDoor.PE
