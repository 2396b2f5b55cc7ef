/- FaultDeep's walk. -/
import Derived.Test.YtcheifegfigegaaDoorHMade
namespace Go.Proofs.YtcheifegfigegaaDoor.PE
open Go.RowKit Go.Extern.Stop Go.Stop Go.Extern Go.Proofs.YtcheifegfigegaaDoorW.PrintWords Go.Proofs.YtcheifegfigegaaDoorW.PrintLast Go.Proofs.YtcheifegfigegaaDoorW.PrintMore
set_option linter.unusedVariables false
set_option linter.unusedSimpArgs false
theorem C_tail {w : World} {ad : Addr} {x : ByteArray} {l : List ByteArray} (h : Kd.C Kd.string w (some ad) (l.length + 1) (x :: l)) : Kd.C Kd.string w (some (ad.add 1)) l.length l := by
  obtain ⟨hn, hm, hk⟩ := h
  refine ⟨rfl, by omega, fun _ => ?_⟩
  obtain ⟨ad', e, hc⟩ := hk (by omega)
  obtain rfl : ad = ad' := Option.some.inj e
  refine ⟨ad.add 1, rfl, fun j p hj => ?_⟩
  obtain ⟨cs, h1, h2, h3⟩ := hc (j + 1) p (by simpa using hj)
  refine ⟨cs, h1, h2, fun i u hu => ?_⟩
  have h4 := h3 i u hu
  have e : (ad.add 1).add (j * Kd.string.sz + i) = ad.add ((j + 1) * Kd.string.sz + i) := by
    have hz : Kd.string.sz = 1 := rfl
    rw [hz]
    rw [show (ad.add 1).add (j * 1 + i) = ad.add (1 + (j * 1 + i)) by unfold Addr.add; by_cases h0 : j * 1 + i = 0 <;> simp [h0, Nat.add_assoc]]
    rw [show 1 + (j * 1 + i) = (j + 1) * 1 + i by rw [Nat.mul_one, Nat.mul_one]; omega]
  rw [e]; exact h4
set_option maxHeartbeats 8000000 in
set_option maxRecDepth 100000 in
theorem fdeep_calls (n : Int) (l : List ByteArray) (A : Option Addr) (c : Nat) (s : ByteArray) (w : World) (hC : Kd.C Kd.string w A l.length l) (hcc : l.length ≤ c) (hg : Gerr w) :
    Calls Tryd.prog 6 #[.int .i64 n, .slice A l.length c, .string s] w fun e w' => e = .returned (.bool true) ∧ Below w.heap.size w w' := by
  have HG := Aside0.mk hg
  have HC := Aside0.mk hC
  have HCC := Aside0.mk hcc
  clear hg hC hcc
  by_cases hz : l.length = 0
  · obtain rfl := List.eq_nil_of_length_eq_zero hz
    clear hz
    go_enter Tryd.func6, Tryd.ntmps6
    go_wp2_with fail
    refine (fsmall_calls w HG.out).mono ?_
    rintro e w1 ⟨rfl, hb⟩
    have B1 := Aside0.mk hb
    clear hb
    go_wp2_with fail
    go_ret
    exact ⟨rfl, B1.out⟩
  · have z1 : ((l.length : Int) == 0) = false := by simp only [beq_eq_false_iff_ne]; omega
    have z2 : (l.length == 0) = false := by simp only [beq_eq_false_iff_ne]; omega
    by_cases h50 : 50 < l.length
    · have d5 : decide (50 < l.length) = true := decide_eq_true h50
      go_enter Tryd.func6, Tryd.ntmps6
      go_wp2_with fail
      refine (fsmall_calls w HG.out).mono ?_
      rintro e w1 ⟨rfl, hb⟩
      have B1 := Aside0.mk hb
      clear hb
      go_wp2_with fail
      go_ret
      exact ⟨rfl, B1.out⟩
    · have d5 : decide (50 < l.length) = false := decide_eq_false h50
      have HL := Aside0.mk (show 1 ≤ l.length ∧ l.length ≤ 50 by omega)
      by_cases hn : n = 0
      · subst hn
        go_enter Tryd.func6, Tryd.ntmps6
        go_wp2_with fail
        refine (fsmall_calls w HG.out).mono ?_
        rintro e w1 ⟨rfl, hb⟩
        have B1 := Aside0.mk hb
        clear hb
        go_wp2_with fail
        go_ret
        exact ⟨rfl, B1.out⟩
      · have n0 : (n == 0) = false := by simpa using hn
        have HN := Aside0.mk hn
        clear hn
        go_enter Tryd.func6, Tryd.ntmps6
        go_wp2_with fail
        refine (fsmall_calls w HG.out).mono ?_
        rintro e w1 ⟨rfl, hb⟩
        have B1 := Aside0.mk hb
        clear hb
        go_wp2_with fail
        refine (Made_calls n l A c w1 (Kd.C_below HC.out B1.out) HCC.out HL.out).mono ?_
        rintro e w2 ⟨v, pv, rfl, hv, -, hb⟩
        have E2 : Aside0 (ErrP w2 n l.reverse v) := ⟨by rcases hv with ⟨h, -⟩ | ⟨-, h⟩; exact absurd h HN.out; exact h⟩
        have HQ := Aside0.mk (show l.reverse.length ≤ 50 by rw [List.length_reverse]; exact HL.out.2)
        have B2 := btrans B1 ⟨hb⟩
        generalize l.reverse = q at E2 HQ
        obtain ⟨ty, y, rfl⟩ := E2.out.iface
        clear hv hb B1 z1 z2 d5 HL
        go_wp2_with fail
        refine (Path_calls q _ n w2 (HG.out.below B2) E2.out (by have := HQ.out; omega)).mono ?_
        rintro e w3 ⟨v3, rfl, hR, hb⟩
        have R3 := Aside0.mk hR
        have E3 := Aside0.mk (E2.out.below ⟨hb⟩)
        have B3 := btrans B2 ⟨hb⟩
        obtain ⟨A3, c3, rfl, -, -⟩ := Kd.R_reads R3.out
        clear hR hb E2 B2
        go_wp2_with fail
        refine (wrap_err q _ n s w3 E3.out).mono ?_
        rintro e w4 ⟨v4, rfl, hv4, hb⟩
        have E4 := Aside0.mk hv4
        have F4 := Aside0.mk (E3.out.below ⟨hb⟩)
        have B4 := btrans B3 ⟨hb⟩
        have R4 := Aside0.mk (Kd.R_below R3.out hb)
        clear hv4 hb E3 B3 R3
        go_wp2_with fail
        refine (Path_calls (s :: q) _ n w4 (HG.out.below B4) E4.out (by have := HQ.out; simp; omega)).mono ?_
        rintro e w5 ⟨v5, rfl, hR, hb⟩
        have F5 := Aside0.mk (F4.out.below ⟨hb⟩)
        have B5 := btrans B4 ⟨hb⟩
        have R5 := Aside0.mk (Kd.R_below R4.out hb)
        obtain ⟨A5, c5, rfl, hl5, hC5⟩ := Kd.R_reads hR
        obtain ⟨ad, -, rfl, -, -, -⟩ := str_at2 hC5 0 (by simp)
        have HC5 := Aside0.mk (And.intro hl5 hC5)
        have hc0 : w5.cell? ad = some (.string s) := by
          obtain ⟨ad', s', e, hc, hst, -⟩ := str_at2 hC5 0 (by simp)
          obtain rfl : ad = ad' := Option.some.inj e
          have : s = s' := by simpa using hst
          subst this
          rw [show ad.add 0 = ad by cases ad; rfl] at hc
          exact hc
        have hq50 : q.length ≤ 50 := HQ.out
        clear hR hb hl5 hC5 F4 B4 R4 E4
        dsimp only [List.length_cons]
        by_cases hc1 : c5 = 1
        · subst hc1
          have hq0 : q = [] := by have := HC5.out.1; simpa using this
          subst hq0
          go_wp2_with fail
          refine (Same01_calls [] (some ad) 0 A3 c3 w5 (Nat.le_trans HQ.out (by decide)) ⟨rfl, by simp, fun h => absurd h (Nat.lt_irrefl 0)⟩ (Nat.le_refl 0) (Kd.R_reads' R5.out).2.2 (Kd.R_reads' R5.out).2.1).mono ?_
          rintro e w6 ⟨rfl, hb⟩
          have B6 := btrans B5 ⟨hb⟩
          have F6 := Aside0.mk (F5.out.below ⟨hb⟩)
          clear hb B5 F5 R5
          go_wp2_with fail
          refine (wrap_err [] _ n s w6 F6.out).mono ?_
          rintro e w7 ⟨v7, rfl, hv7, hb⟩
          have E7 := Aside0.mk hv7
          have F7 := Aside0.mk (F6.out.below ⟨hb⟩)
          have B7 := btrans B6 ⟨hb⟩
          clear hv7 hb B6 F6
          go_wp2_with fail
          refine (code_err (s :: []) v7 n w7 (HG.out.below B7) E7.out).mono ?_
          rintro e w8 ⟨rfl, hb⟩
          have F8 := Aside0.mk (F7.out.below ⟨hb⟩)
          have B8 := btrans B7 ⟨hb⟩
          clear hb F7 B7 E7
          go_wp2_with fail
          refine (code_err [] _ n w8 (HG.out.below B8) F8.out).mono ?_
          rintro e w9 ⟨rfl, hb⟩
          have B9 := btrans B8 ⟨hb⟩
          go_wp2_with fail
          go_ret
          exact ⟨rfl, B9.out⟩
        · have hc2 : 1 < c5 := Nat.lt_of_le_of_ne (Nat.le_trans (Nat.le_add_left 1 q.length) HC5.out.1) (fun h => hc1 h.symm)
          go_wp2_with fail
          refine (Same01_calls q (some (ad.add 1)) (c5 - 1) A3 c3 w5 (Nat.le_trans HQ.out (by decide)) (C_tail HC5.out.2) (by have : q.length + 1 ≤ c5 := HC5.out.1; exact Nat.le_sub_of_add_le this) (Kd.R_reads' R5.out).2.2 (Kd.R_reads' R5.out).2.1).mono ?_
          rintro e w6 ⟨rfl, hb⟩
          have B6 := btrans B5 ⟨hb⟩
          have F6 := Aside0.mk (F5.out.below ⟨hb⟩)
          clear hb B5 F5 R5
          go_wp2_with fail
          refine (wrap_err q _ n s w6 F6.out).mono ?_
          rintro e w7 ⟨v7, rfl, hv7, hb⟩
          have E7 := Aside0.mk hv7
          have F7 := Aside0.mk (F6.out.below ⟨hb⟩)
          have B7 := btrans B6 ⟨hb⟩
          clear hv7 hb B6 F6
          go_wp2_with fail
          refine (code_err (s :: q) v7 n w7 (HG.out.below B7) E7.out).mono ?_
          rintro e w8 ⟨rfl, hb⟩
          have F8 := Aside0.mk (F7.out.below ⟨hb⟩)
          have B8 := btrans B7 ⟨hb⟩
          clear hb F7 B7 E7
          go_wp2_with fail
          refine (code_err q _ n w8 (HG.out.below B8) F8.out).mono ?_
          rintro e w9 ⟨rfl, hb⟩
          have B9 := btrans B8 ⟨hb⟩
          go_wp2_with fail
          go_ret
          exact ⟨rfl, B9.out⟩
theorem fdeep_walk (n : Int) (l : List ByteArray) (A : Option Addr) (c : Nat) (s : ByteArray) (w : World) (_ : (Lit.int .i64 n).wf = true) (hC : Kd.C Kd.string w A l.length l) (hl : l.length ≤ c) (hS : ∀ s ∈ l, s.size ≤ maxLen) (_ : s.size ≤ maxLen) (hg : Gerr w) :
    Calls Tryd.prog 6 #[.int .i64 n, .slice A l.length c, .string s] w fun e w' => e = .returned (.bool true) ∧ Below w.heap.size w w' := fdeep_calls n l A c s w hC hl hg
end Go.Proofs.YtcheifegfigegaaDoor.PE
