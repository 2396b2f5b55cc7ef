/- FaultMakes' walk. -/
import Derived.Test.YtcheifegfigegaaDoorHMakes0
import Derived.Test.YtcheifegfigegaaDoorHFSmall
import Derived.Test.YtcheifegfigegaaDoorHMade
import Derived.Test.YtcheifegfigegaaDoorHIs
import Derived.Test.YtcheifegfigegaaDoorHSame01
namespace Go.Proofs.YtcheifegfigegaaDoor.PE
open Go.RowKit Go.Extern.Stop Go.Stop Go.Extern Go.Proofs.YtcheifegfigegaaDoorW.PrintWords Go.Proofs.YtcheifegfigegaaDoorW.PrintLast Go.Proofs.YtcheifegfigegaaDoorW.PrintMore
set_option linter.unusedVariables false
set_option linter.unusedSimpArgs false
set_option maxHeartbeats 1000000 in
set_option maxRecDepth 100000 in
theorem fmakes_calls (n : Int) (l : List ByteArray) (A : Option Addr) (c : Nat) (w : World) (h0 : -9223372036854775808 ≤ n) (h1 : n ≤ 9223372036854775807) (hC : Kd.C Kd.string w A l.length l) (hcc : l.length ≤ c) (hS : ∀ s ∈ l, s.size ≤ reachBytes) (hg : Gerr w) (ht : Gtab w) :
    Calls Tryd.prog 3 #[.int .i64 n, .slice A l.length c] w fun e w' => e = .returned (.bool true) ∧ Below w.heap.size w w' := by
  have HG := Aside0.mk hg
  have HT := Aside0.mk ht
  have HC := Aside0.mk hC
  have HCC := Aside0.mk hcc
  have HS := Aside0.mk hS
  have H0 := Aside0.mk h0
  have H1 := Aside0.mk h1
  clear hg ht hC hcc hS h0 h1
  by_cases hz : l.length = 0
  · obtain rfl := List.eq_nil_of_length_eq_zero hz
    clear hz
    go_enter Tryd.func3, Tryd.ntmps3
    go_wp2_with fail
    refine (fsmall_calls w HG.out).mono ?_
    rintro e w1 ⟨rfl, hb⟩
    have B1 := Aside0.mk hb
    clear hb
    go_wp2_with fail
    go_ret
    exact ⟨rfl, B1.out⟩
  · have z1 : ((l.length : Int) == 0) = false := by simp only [beq_eq_false_iff_ne]; omega
    have z2 : (l.length == 0) = false := by simp only [beq_eq_false_iff_ne]; omega
    by_cases h50 : 50 < l.length
    · have d5 : decide (50 < l.length) = true := decide_eq_true h50
      go_enter Tryd.func3, Tryd.ntmps3
      go_wp2_with fail
      refine (fsmall_calls w HG.out).mono ?_
      rintro e w1 ⟨rfl, hb⟩
      have B1 := Aside0.mk hb
      clear hb
      go_wp2_with fail
      go_ret
      exact ⟨rfl, B1.out⟩
    · have d5 : decide (50 < l.length) = false := decide_eq_false h50
      have HL := Aside0.mk (show 1 ≤ l.length ∧ l.length ≤ 50 by omega)
      by_cases hn : n = 0
      · subst hn
        go_enter Tryd.func3, Tryd.ntmps3
        go_wp2_with fail
        refine (fsmall_calls w HG.out).mono ?_
        rintro e w1 ⟨rfl, hb⟩
        have B1 := Aside0.mk hb
        clear hb
        go_wp2_with fail
        refine (Made_calls 0 l A c w1 (Kd.C_below HC.out B1.out) HCC.out HL.out).mono ?_
        rintro e w2 ⟨v, pv, rfl, hv, hR, hb⟩
        obtain rfl : v = .nilIface := by rcases hv with ⟨-, h⟩ | ⟨h, -⟩; exact h; exact absurd rfl h
        have B2 := btrans B1 ⟨hb⟩
        obtain ⟨A2, c2, rfl, -, -⟩ := Kd.R_reads hR
        clear hv hR hb B1
        go_wp2_with fail
        refine (code_nil w2).mono ?_
        rintro e wz ⟨rfl, hz⟩
        have hz := hz.symm
        subst hz
        go_wp2_with fail
        refine (Path_nil w2).mono ?_
        rintro e w3 ⟨rfl, hb⟩
        have B3 := btrans B2 ⟨hb⟩
        clear hb
        go_wp2_with fail
        go_ret
        exact ⟨rfl, B3.out⟩
      · have n0 : (n == 0) = false := by simpa using hn
        have HN := Aside0.mk hn
        clear hn
        go_enter Tryd.func3, Tryd.ntmps3
        go_wp2_with fail
        refine (fsmall_calls w HG.out).mono ?_
        rintro e w1 ⟨rfl, hb⟩
        have B1 := Aside0.mk hb
        clear hb
        go_wp2_with fail
        refine (Made_calls n l A c w1 (Kd.C_below HC.out B1.out) HCC.out HL.out).mono ?_
        rintro e w2 ⟨v, pv, rfl, hv, hR, hb⟩
        have E2 : Aside0 (ErrP w2 n l.reverse v) := ⟨by rcases hv with ⟨h, -⟩ | ⟨-, h⟩; exact absurd h HN.out; exact h⟩
        have HQ := Aside0.mk (show 1 ≤ l.reverse.length ∧ l.reverse.length ≤ 50 by rw [List.length_reverse]; exact HL.out)
        have HSQ := Aside0.mk (show ∀ x ∈ l.reverse, x.size ≤ reachBytes from fun x hx => HS.out x (List.mem_reverse.1 hx))
        have B2 := btrans B1 ⟨hb⟩
        generalize l.reverse = q at E2 HQ HSQ hR
        obtain ⟨A2, c2, rfl, hc2, hC2⟩ := Kd.R_reads hR
        have C2 := Aside0.mk (And.intro hc2 hC2)
        obtain ⟨g, rfl, hev⟩ := ErrV H0.out H1.out E2.out HQ.out.1 HQ.out.2 HSQ.out
        have EV2 := Aside0.mk hev
        have HZ := Aside0.mk (text_small H0.out H1.out HQ.out.2 HSQ.out)
        clear hv hR hb B1 z1 z2 d5 hc2 hC2 hev
        go_wp2_with fail
        refine (Path_calls q _ n w2 (HG.out.below B2) E2.out (by have := HQ.out; omega)).mono ?_
        rintro e w3 ⟨v3, rfl, hR, hb⟩
        have R3 := Aside0.mk hR
        have B3 := Aside0.mk hb
        obtain ⟨A3, c3, rfl, hc3, hC3⟩ := Kd.R_reads hR
        have C3 := Aside0.mk (And.intro hc3 hC3)
        clear hR hb hc3 hC3
        go_wp2_with fail
        refine (Same01_calls q A3 c3 A2 c2 w3 (by have := HQ.out; omega) C3.out.2 C3.out.1 (Kd.C_below C2.out.2 B3.out) C2.out.1).mono ?_
        rintro e w4 ⟨rfl, hb⟩
        have B4 := btrans B3 ⟨hb⟩
        obtain ⟨gb, hgb, hfill⟩ := R_fillS (Kd.R_below R3.out hb)
        have HGB := Aside0.mk hgb
        have HF4 := Aside0.mk hfill
        clear hb hgb hfill B3 R3 C3
        go_wp2_with fail
        go_loopw [11] (fun i W => ∃ j : Nat, j ≤ q.length ∧ i = .int .i64 j ∧ Aside0 (FilledS gb q.length A3 W) ∧ Aside0 (Below w2.heap.size w2 W)) (fun i _ => q.length - (intOf i).toNat)
        case atStart => exact ⟨0, Nat.zero_le _, rfl, HF4, B4⟩
        case round =>
          obtain ⟨j, hj, rfl, HFL, BW⟩ := hrel
          by_cases hlj : j < q.length
          · have dj : decide (j < q.length) = true := decide_eq_true hlj
            have HMJ := Aside0.mk (show q.length - (j + 1) < q.length - j by omega)
            have HNJ := Aside0.mk (show j + 1 ≤ q.length by omega)
            have HWJ := Aside0.mk (show wrap64 ((j : Int) + 1) = ((j + 1 : Nat) : Int) by have := HQ.out; unfold wrap64; omega)
            rcases HFL.out with ⟨rfl, cur, hcur, hcn⟩ | ⟨rfl, h0⟩
            · have hsome : ∃ u, World.cell? wr ⟨gb, j, none⟩ = some u := by
                rw [cell_of_heap hcur j]
                exact ⟨_, Array.getElem?_eq_getElem (by omega)⟩
              obtain ⟨u9, hu9⟩ := hsome
              have hz9 : World.frozen? wr ⟨gb, j, none⟩ = false := frozen_of_heap hcur j
              have HFL2 : Aside0 (FilledS gb q.length (some ⟨gb, 0, none⟩) (wr.setCell ⟨gb, j, none⟩ (.string ⟨#[122]⟩))) := ⟨.inl ⟨rfl, _, blk_setS hcur _ _, by simp; omega⟩⟩
              have B5 : Aside0 (Below w2.heap.size w2 (wr.setCell ⟨gb, j, none⟩ (.string ⟨#[122]⟩))) := ⟨BW.out.setCell HGB.out _⟩
              clear hcur hcn
              go_wp2_with fail
              go_roundw
              case rel => exact ⟨j + 1, HNJ.out, by first | rfl | rw [HWJ.out], HFL2, B5⟩
              case measure => first | (rw [HWJ.out]; simpa [intOf] using HMJ.out) | simpa [intOf] using HMJ.out
            · exact absurd hlj (by omega)
          · have dj : decide (j < q.length) = false := decide_eq_false hlj
            have G5 := Aside0.mk (HG.out.below (btrans B2 BW))
            have T5 := Aside0.mk (HT.out.below (btrans B2 BW))
            have E5 := Aside0.mk (E2.out.below BW)
            have C5 := Aside0.mk (Kd.C_below C2.out.2 BW.out)
            have B5 := btrans B2 BW
            go_wp2_with fail
            refine (EV2.out wr BW.out T5.out).mono ?_
            rintro e w6 ⟨rfl, hb⟩
            have B6 := Aside0.mk hb
            clear hb
            go_wp2_with fail
            refine (Text_calls n H0.out H1.out q A2 c2 w6 (T5.out.below B6) (Kd.C_below C5.out B6.out) (by have := HQ.out; omega) (by have := HZ.out; omega)).mono ?_
            rintro e w7 ⟨rfl, hb⟩
            have B7 := btrans B6 ⟨hb⟩
            clear hb B6
            generalize textOf (numText n) q = S
            go_wp2_with fail
            refine (code_err q _ n w7 (G5.out.below B7) (E5.out.below B7)).mono ?_
            rintro e w8 ⟨rfl, hb⟩
            have B8 := btrans B7 ⟨hb⟩
            clear hb B7
            have hnn : (n == n) = true := by simp
            go_wp2_with fail
            refine (Path_calls q _ n w8 (G5.out.below B8) (E5.out.below B8) (by have := HQ.out; omega)).mono ?_
            rintro e w9 ⟨v9, rfl, hR, hb⟩
            have B9 := btrans B8 ⟨hb⟩
            obtain ⟨A9, c9, rfl, hc9, hC9⟩ := Kd.R_reads hR
            have C9 := Aside0.mk (And.intro hc9 hC9)
            clear hb hR hc9 hC9 B8
            go_wp2_with fail
            refine (Same01_calls q A9 c9 A2 c2 w9 (by have := HQ.out; omega) C9.out.2 C9.out.1 (Kd.C_below C5.out B9.out) C2.out.1).mono ?_
            rintro e w10 ⟨rfl, hb⟩
            have B10 := btrans B5 (btrans B9 ⟨hb⟩)
            clear hb
            go_wp2_with fail
            go_ret
            exact ⟨rfl, B10.out⟩
theorem fmakes_walk (n : Int) (l : List ByteArray) (A : Option Addr) (c : Nat) (w : World) (hw : (Lit.int .i64 n).wf = true) (hC : Kd.C Kd.string w A l.length l) (hl : l.length ≤ c) (hS : ∀ s ∈ l, s.size ≤ reachBytes) (hg : Gerr w) (ht : Gtab w) :
    Calls Tryd.prog 3 #[.int .i64 n, .slice A l.length c] w fun e w' => e = .returned (.bool true) ∧ Below w.heap.size w w' := by
  have h : -9223372036854775808 ≤ n ∧ n ≤ 9223372036854775807 := by
    simp [Lit.wf, IntKind.min, IntKind.max, IntKind.signed, IntKind.bits] at hw; exact hw
  exact fmakes_calls n l A c w h.1 h.2 hC hl hS hg ht
end Go.Proofs.YtcheifegfigegaaDoor.PE
