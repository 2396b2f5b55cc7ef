/- FaultEnds' walk. -/
import Derived.Test.YtcheifegfigegaaDoorHMakes0
import Derived.Test.YtcheifegfigegaaDoorHFSmall
import Derived.Test.YtcheifegfigegaaDoorHMade
import Derived.Test.YtcheifegfigegaaDoorHIs
namespace Go.Proofs.YtcheifegfigegaaDoor.PE
open Go.RowKit Go.Extern.Stop Go.Stop Go.Extern Go.Proofs.YtcheifegfigegaaDoorW.PrintWords Go.Proofs.YtcheifegfigegaaDoorW.PrintLast Go.Proofs.YtcheifegfigegaaDoorW.PrintMore
set_option linter.unusedVariables false
set_option linter.unusedSimpArgs false
theorem ba_front (F R : ByteArray) : (F ++ R).extract 0 F.size = F := by
  rw [ByteArray.extract_append_eq_left rfl]
theorem ba_back (U R : ByteArray) : (U ++ R).extract U.size (U ++ R).size = R := by
  rw [ByteArray.size_append, ByteArray.extract_append_eq_right rfl rfl]
theorem textOf_back (R : ByteArray) : ∀ q : List ByteArray, ∃ U, textOf R q = U ++ R
  | [] => ⟨⟨#[]⟩, by show R = _; rfl⟩
  | s :: q => by
    obtain ⟨U, h⟩ := textOf_back R q
    refine ⟨s ++ ⟨#[58, 32]⟩ ++ U, ?_⟩
    show s ++ ⟨#[58, 32]⟩ ++ textOf R q = _
    rw [h, ByteArray.append_assoc, ByteArray.append_assoc, ByteArray.append_assoc]
/-- What the text of an error begins and ends with. -/
theorem text_ends (R x : ByteArray) (q : List ByteArray) : (textOf R (x :: q)).extract 0 (x ++ ⟨#[58, 32]⟩ : ByteArray).size = x ++ ⟨#[58, 32]⟩ ∧ (textOf R (x :: q)).extract ((textOf R (x :: q)).size - R.size) (textOf R (x :: q)).size = R ∧ (x ++ ⟨#[58, 32]⟩ : ByteArray).size + R.size ≤ (textOf R (x :: q)).size := by
  obtain ⟨U, h⟩ := textOf_back R q
  have e1 : textOf R (x :: q) = (x ++ ⟨#[58, 32]⟩) ++ textOf R q := rfl
  have e2 : textOf R (x :: q) = ((x ++ ⟨#[58, 32]⟩) ++ U) ++ R := by rw [e1, h]; exact (ByteArray.append_assoc (a := x ++ ⟨#[58, 32]⟩) (b := U) (c := R)).symm
  refine ⟨by rw [e1]; exact ba_front _ _, ?_, ?_⟩
  · rw [e2]
    generalize x ++ ⟨#[58, 32]⟩ = F
    have e3 : ((F ++ U) ++ R : ByteArray).size - R.size = (F ++ U : ByteArray).size := by rw [ByteArray.size_append]; omega
    rw [e3]
    exact ba_back _ _
  · generalize x ++ ⟨#[58, 32]⟩ = F at e2
    rw [e2, ByteArray.size_append, ByteArray.size_append]; omega
set_option maxHeartbeats 1000000 in
set_option maxRecDepth 100000 in
theorem fends_calls (n : Int) (l : List ByteArray) (A : Option Addr) (c : Nat) (w : World) (h0 : -9223372036854775808 ≤ n) (h1 : n ≤ 9223372036854775807) (hC : Kd.C Kd.string w A l.length l) (hcc : l.length ≤ c) (hS : ∀ s ∈ l, s.size ≤ reachBytes) (hg : Gerr w) (ht : Gtab w) :
    Calls Tryd.prog 7 #[.int .i64 n, .slice A l.length c] w fun e w' => e = .returned (.bool true) ∧ Below w.heap.size w w' := by
  have HG := Aside0.mk hg
  have HT := Aside0.mk ht
  have HC := Aside0.mk hC
  have HCC := Aside0.mk hcc
  have HS := Aside0.mk hS
  have H0 := Aside0.mk h0
  have H1 := Aside0.mk h1
  clear hg ht hC hcc hS h0 h1
  by_cases hz : l.length = 0
  · obtain rfl := List.eq_nil_of_length_eq_zero hz
    clear hz
    go_enter Tryd.func7, Tryd.ntmps7
    go_wp2_with fail
    refine (fsmall_calls w HG.out).mono ?_
    rintro e w1 ⟨rfl, hb⟩
    have B1 := Aside0.mk hb
    clear hb
    go_wp2_with fail
    go_ret
    exact ⟨rfl, B1.out⟩
  · have z1 : ((l.length : Int) == 0) = false := by simp only [beq_eq_false_iff_ne]; omega
    have z2 : (l.length == 0) = false := by simp only [beq_eq_false_iff_ne]; omega
    by_cases h50 : 50 < l.length
    · have d5 : decide (50 < l.length) = true := decide_eq_true h50
      go_enter Tryd.func7, Tryd.ntmps7
      go_wp2_with fail
      refine (fsmall_calls w HG.out).mono ?_
      rintro e w1 ⟨rfl, hb⟩
      have B1 := Aside0.mk hb
      clear hb
      go_wp2_with fail
      go_ret
      exact ⟨rfl, B1.out⟩
    · have d5 : decide (50 < l.length) = false := decide_eq_false h50
      have HL := Aside0.mk (show 1 ≤ l.length ∧ l.length ≤ 50 by omega)
      by_cases hn : n = 0
      · subst hn
        go_enter Tryd.func7, Tryd.ntmps7
        go_wp2_with fail
        refine (fsmall_calls w HG.out).mono ?_
        rintro e w1 ⟨rfl, hb⟩
        have B1 := Aside0.mk hb
        clear hb
        go_wp2_with fail
        go_ret
        exact ⟨rfl, B1.out⟩
      · have n0 : (n == 0) = false := by simpa using hn
        have HN := Aside0.mk hn
        clear hn
        go_enter Tryd.func7, Tryd.ntmps7
        go_wp2_with fail
        refine (fsmall_calls w HG.out).mono ?_
        rintro e w1 ⟨rfl, hb⟩
        have B1 := Aside0.mk hb
        clear hb
        go_wp2_with fail
        refine (Made_calls n l A c w1 (Kd.C_below HC.out B1.out) HCC.out HL.out).mono ?_
        rintro e w2 ⟨v, pv, rfl, hv, hR, hb⟩
        have E2 : Aside0 (ErrP w2 n l.reverse v) := ⟨by rcases hv with ⟨h, -⟩ | ⟨-, h⟩; exact absurd h HN.out; exact h⟩
        have HQ := Aside0.mk (show 1 ≤ l.reverse.length ∧ l.reverse.length ≤ 50 by rw [List.length_reverse]; exact HL.out)
        have HSQ := Aside0.mk (show ∀ x ∈ l.reverse, x.size ≤ reachBytes from fun x hx => HS.out x (List.mem_reverse.1 hx))
        have B2 := btrans B1 ⟨hb⟩
        obtain ⟨ad, hA, hcell⟩ := str_at (Kd.C_below HC.out B2.out) (l.length - 1) (by have := HL.out; omega)
        have HX : Aside0 (∃ q, l.reverse = l.getD (l.length - 1) ⟨#[]⟩ :: q) := ⟨by
          have hl := HL.out
          have hne : l ≠ [] := by intro h; rw [h] at hl; simp at hl
          rw [List.getD_eq_getElem?_getD, List.getElem?_eq_getElem (by omega)]
          refine ⟨l.dropLast.reverse, ?_⟩
          show l.reverse = l[l.length - 1] :: l.dropLast.reverse
          rw [← List.getLast_eq_getElem hne]
          have h := List.dropLast_concat_getLast hne
          calc l.reverse = (l.dropLast ++ [l.getLast hne]).reverse := by rw [h]
            _ = _ := by rw [List.reverse_append]; rfl⟩
        generalize l.getD (l.length - 1) ⟨#[]⟩ = x at HX hcell
        generalize l.reverse = q at E2 HQ HSQ hR HX
        obtain rfl := hA
        obtain ⟨A2, c2, rfl, -, -⟩ := Kd.R_reads hR
        obtain ⟨g, rfl, hev⟩ := ErrV H0.out H1.out E2.out HQ.out.1 HQ.out.2 HSQ.out
        have EV2 := Aside0.mk hev
        have HZ := Aside0.mk (text_small H0.out H1.out HQ.out.2 HSQ.out)
        have HE : Aside0 ((textOf (numText n) q).extract 0 (x ++ ⟨#[58, 32]⟩ : ByteArray).size = x ++ ⟨#[58, 32]⟩ ∧ (textOf (numText n) q).extract ((textOf (numText n) q).size - (numText n).size) (textOf (numText n) q).size = numText n ∧ (x ++ ⟨#[58, 32]⟩ : ByteArray).size + (numText n).size ≤ (textOf (numText n) q).size) := by
          obtain ⟨q', hq'⟩ := HX.out
          exact ⟨by rw [hq']; exact text_ends _ _ _⟩
        have CELL := Aside0.mk hcell
        clear hv hR hb B1 hev hcell
        go_wp2_with fail
        refine (EV2.out w2 (Below.refl _ _) (HT.out.below B2)).mono ?_
        rintro e w3 ⟨rfl, hb⟩
        have B3 := btrans B2 ⟨hb⟩
        have C3 := Aside0.mk (bcellA ⟨hb⟩ CELL.out)
        clear hb
        go_wp2_with fail
        refine (errno_calls n H0.out H1.out w3 (HT.out.below B3)).mono ?_
        rintro e w4 ⟨rfl, hb⟩
        have B4 := btrans B3 ⟨hb⟩
        have hcell := bcellA ⟨hb⟩ C3.out
        have hwl : wrap64 ((l.length : Int) - 1) = ((l.length - 1 : Nat) : Int) := by have := HL.out; unfold wrap64; omega
        have hil : l.length - 1 < l.length := by have := HL.out; omega
        have hx2 : ¬ 9223372036854775807 < x.size + 2 := by
          have h1 := HZ.out
          have h2 := HE.out.2.2
          rw [ByteArray.size_append] at h2
          have h3 : (⟨#[58, 32]⟩ : ByteArray).size = 2 := rfl
          omega
        clear hb
        generalize textOf (numText n) q = S at HZ HE
        generalize numText n = R at HE
        have h5 : S.extract 0 (x.size + 2) = x ++ ⟨#[58, 32]⟩ := by
          have h := HE.out.1
          rw [ByteArray.size_append] at h
          exact h
        have h6 : S.extract (S.size - R.size) S.size = R := HE.out.2.1
        have h7 : x.size + 2 + R.size ≤ S.size := by
          have h := HE.out.2.2
          rw [ByteArray.size_append] at h
          exact h
        have h8 : S.size ≤ 9223372036854775807 - 1000 := HZ.out
        have w1 : wrap64 ((x.size : Int) + 2 + (R.size : Int)) = (x.size : Int) + 2 + (R.size : Int) := by unfold wrap64; omega
        have d1 : decide (wrap64 ((x.size : Int) + 2 + (R.size : Int)) ≤ (S.size : Int)) = true := by rw [w1]; exact decide_eq_true (by omega)
        have d2 : wrap64 ((x.size : Int) + 2 + (R.size : Int)) ≤ (S.size : Int) := by rw [w1]; omega
        have b1 : 0 ≤ (x.size : Int) + 2 ∧ (x.size : Int) + 2 ≤ (S.size : Int) := by omega
        have w2 : wrap64 ((S.size : Int) - (R.size : Int)) = ((S.size - R.size : Nat) : Int) := by unfold wrap64; omega
        have b2 : S.size - R.size ≤ S.size := by omega
        clear w1 h7 h8
        go_wp2_with fail
        go_ret
        exact ⟨rfl, B4.out⟩
theorem fends_walk (n : Int) (l : List ByteArray) (A : Option Addr) (c : Nat) (w : World) (hw : (Lit.int .i64 n).wf = true) (hC : Kd.C Kd.string w A l.length l) (hl : l.length ≤ c) (hS : ∀ s ∈ l, s.size ≤ reachBytes) (hg : Gerr w) (ht : Gtab w) :
    Calls Tryd.prog 7 #[.int .i64 n, .slice A l.length c] w fun e w' => e = .returned (.bool true) ∧ Below w.heap.size w w' := by
  have h : -9223372036854775808 ≤ n ∧ n ≤ 9223372036854775807 := by
    simp [Lit.wf, IntKind.min, IntKind.max, IntKind.signed, IntKind.bits] at hw; exact hw
  exact fends_calls n l A c w h.1 h.2 hC hl hS hg ht
end Go.Proofs.YtcheifegfigegaaDoor.PE
