/- FaultPlain's walk. -/
import Derived.Test.YtcheifegfigegaaDoorHPIs
import Derived.Test.YtcheifegfigegaaDoorHPPath
import Derived.Test.YtcheifegfigegaaDoorHPText
import Derived.Test.YtcheifegfigegaaDoorHFSmall
import Derived.Test.YtcheifegfigegaaDoorHMade
namespace Go.Proofs.YtcheifegfigegaaDoor.PE
open Go.RowKit Go.Extern.Stop Go.Stop Go.Extern Go.Proofs.YtcheifegfigegaaDoorW.PrintWords Go.Proofs.YtcheifegfigegaaDoorW.PrintLast Go.Proofs.YtcheifegfigegaaDoorW.PrintMore
set_option linter.unusedVariables false
set_option linter.unusedSimpArgs false
set_option maxHeartbeats 8000000 in
set_option maxRecDepth 100000 in
theorem fplain_calls (text : ByteArray) (n : Int) (what : ByteArray) (w : World) (hg : Gerr w) :
    Calls Tryd.prog 8 #[.string text, .int .i64 n, .string what] w fun e w' => e = .returned (.bool true) ∧ Below w.heap.size w w' := by
  have HG := Aside0.mk hg
  clear hg
  by_cases ht : 1000 < text.size
  · have d1 : decide (1000 < text.size) = true := decide_eq_true ht
    go_enter Tryd.func8, Tryd.ntmps8
    go_wp2_with fail
    refine (fsmall_calls w HG.out).mono ?_
    rintro e w1 ⟨rfl, hb⟩
    have B1 := Aside0.mk hb
    clear hb
    go_wp2_with fail
    refine (newQ text w1).mono ?_
    rintro e w2 ⟨rfl, hh, hb⟩
    generalize w1.heap.size = b at hh
    have H2 := Aside0.mk hh
    have B2 := btrans B1 ⟨hb⟩
    clear hb hh B1
    go_wp2_with fail
    refine (wrapQ [] (.iface 64 (.pointer (some ⟨b, 0, none⟩))) ⟨b, 0, none⟩ what w2 rfl).mono ?_
    rintro e w3 ⟨v3, rfl, hv, hb⟩
    have H3 := Aside0.mk (heap_below ⟨hb⟩ H2.out)
    have B3 := btrans B2 ⟨hb⟩
    obtain ⟨g, v', rfl, hgb, hv'⟩ := hv
    obtain rfl : v' = .iface 64 (.pointer (some ⟨b, 0, none⟩)) := hv'
    have G3 := Aside0.mk hgb
    clear hb hgb B2 H2
    go_wp2_with fail
    go_ret
    exact ⟨rfl, B3.out⟩
  · have d1 : decide (1000 < text.size) = false := decide_eq_false ht
    by_cases hw : 1000 < what.size
    · have d2 : decide (1000 < what.size) = true := decide_eq_true hw
      go_enter Tryd.func8, Tryd.ntmps8
      go_wp2_with fail
      refine (fsmall_calls w HG.out).mono ?_
      rintro e w1 ⟨rfl, hb⟩
      have B1 := Aside0.mk hb
      clear hb
      go_wp2_with fail
      refine (newQ text w1).mono ?_
      rintro e w2 ⟨rfl, hh, hb⟩
      generalize w1.heap.size = b at hh
      have H2 := Aside0.mk hh
      have B2 := btrans B1 ⟨hb⟩
      clear hb hh B1
      go_wp2_with fail
      refine (wrapQ [] (.iface 64 (.pointer (some ⟨b, 0, none⟩))) ⟨b, 0, none⟩ what w2 rfl).mono ?_
      rintro e w3 ⟨v3, rfl, hv, hb⟩
      have H3 := Aside0.mk (heap_below ⟨hb⟩ H2.out)
      have B3 := btrans B2 ⟨hb⟩
      obtain ⟨g, v', rfl, hgb, hv'⟩ := hv
      obtain rfl : v' = .iface 64 (.pointer (some ⟨b, 0, none⟩)) := hv'
      have G3 := Aside0.mk hgb
      clear hb hgb B2 H2
      go_wp2_with fail
      go_ret
      exact ⟨rfl, B3.out⟩
    · have d2 : decide (1000 < what.size) = false := decide_eq_false hw
      go_enter Tryd.func8, Tryd.ntmps8
      go_wp2_with fail
      refine (fsmall_calls w HG.out).mono ?_
      rintro e w1 ⟨rfl, hb⟩
      have B1 := Aside0.mk hb
      clear hb
      go_wp2_with fail
      refine (newQ text w1).mono ?_
      rintro e w2 ⟨rfl, hh, hb⟩
      generalize w1.heap.size = b at hh
      have H2 := Aside0.mk hh
      have B2 := btrans B1 ⟨hb⟩
      clear hb hh B1
      go_wp2_with fail
      refine (wrapQ [] (.iface 64 (.pointer (some ⟨b, 0, none⟩))) ⟨b, 0, none⟩ what w2 rfl).mono ?_
      rintro e w3 ⟨v3, rfl, hv, hb⟩
      have H3 := Aside0.mk (heap_below ⟨hb⟩ H2.out)
      have B3 := btrans B2 ⟨hb⟩
      obtain ⟨g, v', rfl, hgb, hv'⟩ := hv
      obtain rfl : v' = .iface 64 (.pointer (some ⟨b, 0, none⟩)) := hv'
      have G3 := Aside0.mk hgb
      clear hb hgb B2 H2
      go_wp2_with fail
      refine (codeQ [] (.iface 64 (.pointer (some ⟨b, 0, none⟩))) ⟨b, 0, none⟩ w3 (HG.out.below B3) rfl).mono ?_
      rintro e w4 ⟨rfl, hb⟩
      have B4 := btrans B3 ⟨hb⟩
      have H4 := Aside0.mk (heap_below ⟨hb⟩ H3.out)
      have G4 := Aside0.mk (heap_below ⟨hb⟩ G3.out)
      clear hb B3 H3 G3
      go_wp2_with fail
      refine (PathQ [] (.iface 64 (.pointer (some ⟨b, 0, none⟩))) ⟨b, 0, none⟩ w4 (HG.out.below B4) rfl (by decide)).mono ?_
      rintro e w5 ⟨v5, rfl, hR, hb⟩
      have B5 := btrans B4 ⟨hb⟩
      have H5 := Aside0.mk (heap_below ⟨hb⟩ H4.out)
      have G5 := Aside0.mk (heap_below ⟨hb⟩ G4.out)
      obtain ⟨A5, c5, rfl, -, -⟩ := Kd.R_reads hR
      clear hR
      dsimp only [List.length_nil]
      clear hb B4 H4 G4
      go_wp2_with fail
      refine (codeQ [what] (.iface 45 (.pointer (some ⟨g, 0, none⟩))) ⟨b, 0, none⟩ w5 (HG.out.below B5) ⟨g, _, rfl, G5.out, rfl⟩).mono ?_
      rintro e w6 ⟨rfl, hb⟩
      have B6 := btrans B5 ⟨hb⟩
      have H6 := Aside0.mk (heap_below ⟨hb⟩ H5.out)
      have G6 := Aside0.mk (heap_below ⟨hb⟩ G5.out)
      clear hb B5 H5 G5
      go_wp2_with fail
      refine (Err_step64 text what g b w6 G6.out (by omega) (fun W hW => errQ text b W (heap_below ⟨hW⟩ H6.out))).mono ?_
      rintro e w7 ⟨rfl, hb⟩
      have B7 := btrans B6 ⟨hb⟩
      have H7 := Aside0.mk (heap_below ⟨hb⟩ H6.out)
      have G7 := Aside0.mk (heap_below ⟨hb⟩ G6.out)
      clear hb B6 H6 G6
      go_wp2_with fail
      refine (IsQ [what] (.iface 45 (.pointer (some ⟨g, 0, none⟩))) ⟨b, 0, none⟩ w7 ⟨g, _, rfl, G7.out, rfl⟩).mono ?_
      rintro e w8 ⟨rfl, hb⟩
      have B8 := btrans B7 ⟨hb⟩
      have H8 := Aside0.mk (heap_below ⟨hb⟩ H7.out)
      have G8 := Aside0.mk (heap_below ⟨hb⟩ G7.out)
      clear hb B7 H7 G7
      go_wp2_with fail
      refine (PathQ [what] (.iface 45 (.pointer (some ⟨g, 0, none⟩))) ⟨b, 0, none⟩ w8 (HG.out.below B8) ⟨g, _, rfl, G8.out, rfl⟩ (by simp)).mono ?_
      rintro e w9 ⟨v9, rfl, hR, hb⟩
      have B9 := btrans B8 ⟨hb⟩
      have H9 := Aside0.mk (heap_below ⟨hb⟩ H8.out)
      have G9 := Aside0.mk (heap_below ⟨hb⟩ G8.out)
      obtain ⟨A9, c9, rfl, -, -⟩ := Kd.R_reads hR
      clear hR
      dsimp only [List.length_cons, List.length_nil]
      clear hb B8 H8 G8
      go_wp2_with fail
      refine (Path_calls [] (.iface 24 (.int .i64 n)) n w9 (HG.out.below B9) rfl (by decide)).mono ?_
      rintro e w10 ⟨v10, rfl, hR, hb⟩
      have B10 := btrans B9 ⟨hb⟩
      have H10 := Aside0.mk (heap_below ⟨hb⟩ H9.out)
      have G10 := Aside0.mk (heap_below ⟨hb⟩ G9.out)
      obtain ⟨A10, c10, rfl, -, -⟩ := Kd.R_reads hR
      clear hR
      dsimp only [List.length_nil]
      clear hb B9 H9 G9
      go_wp2_with fail
      go_ret
      exact ⟨rfl, B10.out⟩
theorem fplain_walk (text : ByteArray) (n : Int) (what : ByteArray) (w : World) (_ : text.size ≤ maxLen) (_ : (Lit.int .i64 n).wf = true) (_ : what.size ≤ maxLen) (hg : Gerr w) :
    Calls Tryd.prog 8 #[.string text, .int .i64 n, .string what] w fun e w' => e = .returned (.bool true) ∧ Below w.heap.size w w' := fplain_calls text n what w hg
end Go.Proofs.YtcheifegfigegaaDoor.PE
