/- FaultFinds' walk. -/
import Derived.Test.YtcheifegfigegaaDoorHMade
namespace Go.Proofs.YtcheifegfigegaaDoor.PE
open Go.RowKit Go.Extern.Stop Go.Stop Go.Extern Go.Proofs.YtcheifegfigegaaDoorW.PrintWords Go.Proofs.YtcheifegfigegaaDoorW.PrintLast Go.Proofs.YtcheifegfigegaaDoorW.PrintMore
set_option linter.unusedVariables false
set_option linter.unusedSimpArgs false
set_option maxHeartbeats 8000000 in
set_option maxRecDepth 100000 in
theorem ffinds_calls (n : Int) (l : List ByteArray) (A : Option Addr) (c : Nat) (w : World) (hC : Kd.C Kd.string w A l.length l) (hcc : l.length ≤ c) (hg : Gerr w) :
    Calls Tryd.prog 5 #[.int .i64 n, .slice A l.length c] w fun e w' => e = .returned (.bool true) ∧ Below w.heap.size w w' := by
  have HG := Aside0.mk hg
  have HC := Aside0.mk hC
  have HCC := Aside0.mk hcc
  clear hg hC hcc
  by_cases hz : l.length = 0
  · obtain rfl := List.eq_nil_of_length_eq_zero hz
    clear hz
    go_enter Tryd.func5, Tryd.ntmps5
    go_wp2_with fail
    refine (fsmall_calls w HG.out).mono ?_
    rintro e w1 ⟨rfl, hb⟩
    have B1 := Aside0.mk hb
    clear hb
    go_wp2_with fail
    go_ret
    exact ⟨rfl, B1.out⟩
  · have z1 : ((l.length : Int) == 0) = false := by simp only [beq_eq_false_iff_ne]; omega
    have z2 : (l.length == 0) = false := by simp only [beq_eq_false_iff_ne]; omega
    by_cases h50 : 50 < l.length
    · have d5 : decide (50 < l.length) = true := decide_eq_true h50
      go_enter Tryd.func5, Tryd.ntmps5
      go_wp2_with fail
      refine (fsmall_calls w HG.out).mono ?_
      rintro e w1 ⟨rfl, hb⟩
      have B1 := Aside0.mk hb
      clear hb
      go_wp2_with fail
      go_ret
      exact ⟨rfl, B1.out⟩
    · have d5 : decide (50 < l.length) = false := decide_eq_false h50
      have HL := Aside0.mk (show 1 ≤ l.length ∧ l.length ≤ 50 by omega)
      by_cases hn : n = 0
      · subst hn
        go_enter Tryd.func5, Tryd.ntmps5
        go_wp2_with fail
        refine (fsmall_calls w HG.out).mono ?_
        rintro e w1 ⟨rfl, hb⟩
        have B1 := Aside0.mk hb
        clear hb
        go_wp2_with fail
        go_ret
        exact ⟨rfl, B1.out⟩
      · have n0 : (n == 0) = false := by simpa using hn
        have HN := Aside0.mk hn
        clear hn
        go_enter Tryd.func5, Tryd.ntmps5
        go_wp2_with fail
        refine (fsmall_calls w HG.out).mono ?_
        rintro e w1 ⟨rfl, hb⟩
        have B1 := Aside0.mk hb
        clear hb
        go_wp2_with fail
        refine (Made_calls n l A c w1 (Kd.C_below HC.out B1.out) HCC.out HL.out).mono ?_
        rintro e w2 ⟨v, pv, rfl, hv, -, hb⟩
        have E2 : Aside0 (ErrP w2 n l.reverse v) := ⟨by rcases hv with ⟨h, -⟩ | ⟨-, h⟩; exact absurd h HN.out; exact h⟩
        have B2 := btrans B1 ⟨hb⟩
        obtain ⟨ty, y, rfl⟩ := E2.out.iface
        clear hv hb B1
        go_wp2_with fail
        have E2' := Aside0.mk (E2.out.below (balloc ⟨Below.refl _ _⟩ (.cells #[.int .i64 0] 24)))
        have B2' := balloc B2 (.cells #[.int .i64 0] 24)
        refine (Is_calls _ _ n n _ E2'.out).mono ?_
        rintro e w3 ⟨rfl, hb⟩
        have hnn : (n == n) = true := by simp
        rw [hnn]
        have E3 := Aside0.mk (E2'.out.below ⟨hb⟩)
        have B3 := btrans B2' ⟨hb⟩
        have H3 := Aside0.mk (heap_below ⟨hb⟩ (heap_new w2 (.cells #[.int .i64 0] 24)))
        clear hb E2 E2' B2'
        go_wp2_with fail
        refine (As_calls _ _ n ⟨w2.heap.size, 0, none⟩ _ w3 (HG.out.below B3) E3.out (cell_of_heap H3.out 0) (frozen_of_heap H3.out 0)).mono ?_
        rintro e w4 ⟨rfl, w5, hb, hw4⟩
        have H5 := heap_below ⟨hb⟩ H3.out
        have c4 : w4.cell? ⟨w2.heap.size, 0, none⟩ = some (.int .i64 n) := by rw [hw4]; exact cell_set_new H5
        have B4 : Aside0 (Below w.heap.size w w4) := ⟨by rw [hw4]; exact (btrans B3 ⟨hb⟩).out.setCell B2.out.size _⟩
        clear hb hw4 H5
        go_wp2_with fail
        go_ret
        exact ⟨rfl, B4.out⟩
theorem ffinds_walk (n : Int) (l : List ByteArray) (A : Option Addr) (c : Nat) (w : World) (_ : (Lit.int .i64 n).wf = true) (hC : Kd.C Kd.string w A l.length l) (hl : l.length ≤ c) (hS : ∀ s ∈ l, s.size ≤ maxLen) (hg : Gerr w) :
    Calls Tryd.prog 5 #[.int .i64 n, .slice A l.length c] w fun e w' => e = .returned (.bool true) ∧ Below w.heap.size w w' := ffinds_calls n l A c w hC hl hg
end Go.Proofs.YtcheifegfigegaaDoor.PE
