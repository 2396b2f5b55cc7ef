/- The small case of the fault statements comes out right. -/
import Derived.Test.YtcheifegfigegaaDoorHSame01
namespace Go.Proofs.YtcheifegfigegaaDoor.PE
open Go.RowKit Go.Extern.Stop Go.Stop Go.Extern Go.Proofs.YtcheifegfigegaaDoorW.PrintWords Go.Proofs.YtcheifegfigegaaDoorW.PrintLast Go.Proofs.YtcheifegfigegaaDoorW.PrintMore
set_option linter.unusedVariables false
set_option linter.unusedSimpArgs false
theorem C_lit2 (w : World) (a b : ByteArray) : Kd.C Kd.string (w.alloc (.cells #[.string a, .string b] 9)) (some ⟨w.heap.size, 0, none⟩) 2 [a, b] := by
  refine ⟨rfl, by decide, fun _ => ⟨⟨w.heap.size, 0, none⟩, rfl, fun j p hj => ?_⟩⟩
  match j with
  | 0 =>
    have hp : a = p := by simpa using hj
    subst hp
    refine ⟨[.string a], rfl, rfl, fun i u hu => ?_⟩
    match i with
    | 0 =>
      have hu : Value.string a = u := by simpa using hu
      subst hu
      exact cell_of_heap (heap_new _ _) 0
    | i + 1 => simp at hu
  | 1 =>
    have hp : b = p := by simpa using hj
    subst hp
    refine ⟨[.string b], rfl, rfl, fun i u hu => ?_⟩
    match i with
    | 0 =>
      have hu : Value.string b = u := by simpa using hu
      subst hu
      exact cell_of_heap (heap_new _ _) 1
    | i + 1 => simp at hu
  | j + 2 => simp at hj
def tE3 : ByteArray := ⟨#[101, 114, 114, 111, 114, 32, 51]⟩
theorem tE3_calls (W : World) : Calls Tryd.prog 19 #[.int .i64 3] W fun e w' => e = .returned (.string tE3) ∧ Below W.heap.size W w' := by
  refine (errno3 W).mono ?_
  rintro e w' ⟨rfl, rfl⟩
  exact ⟨rfl, Below.refl _ _⟩
theorem txt : textOf tE3 [⟨#[108, 105, 110, 107]⟩, ⟨#[102, 114, 97, 109, 101]⟩] = ⟨#[108, 105, 110, 107, 58, 32, 102, 114, 97, 109, 101, 58, 32, 101, 114, 114, 111, 114, 32, 51]⟩ := by kernel_rfl
set_option maxHeartbeats 8000000 in
set_option maxRecDepth 100000 in
theorem fsmall_calls (w : World) (hg : Gerr w) : Calls Tryd.prog 9 #[] w fun e w' => e = .returned (.bool true) ∧ Below w.heap.size w w' := by
  have HG := Aside0.mk hg
  have mS := methodErrS
  clear hg
  go_enter Tryd.func9, Tryd.ntmps9
  go_wp2_with fail
  refine (new_err 3 _ w (by decide)).mono ?_
  rintro e w1 ⟨v1, rfl, h1, hb⟩
  have E1 := Aside0.mk h1
  have B1 := Aside0.mk hb
  obtain ⟨g1, u1, rfl, -, -⟩ := h1
  clear hb
  go_wp2_with fail
  refine (wrap_err _ _ 3 _ w1 E1.out).mono ?_
  rintro e w2 ⟨v2, rfl, h2, hb⟩
  have E2 := Aside0.mk h2
  have B2 := btrans B1 ⟨hb⟩
  obtain ⟨g2, u2, rfl, hg2, hu2⟩ := h2
  have HG2 := Aside0.mk (And.intro hg2 hu2)
  clear hb hg2 hu2 B1
  go_wp2_with fail
  refine (new_ok _ w2).mono ?_
  rintro e wz ⟨rfl, hz⟩
  have hz := hz.symm
  subst hz
  go_wp2_with fail
  refine (Err_calls tE3 3 100 tE3_calls (by decide) (by decide) [⟨#[102, 114, 97, 109, 101]⟩] ⟨#[108, 105, 110, 107]⟩ g2 u2 w2 (by simp) (by decide) (by intro x hx; rw [List.mem_singleton] at hx; rw [hx]; decide) HG2.out.1 HG2.out.2).mono ?_
  rintro e w3 ⟨rfl, hb⟩
  rw [txt]
  have E3 := Aside0.mk (E2.out.below ⟨hb⟩)
  have B3 := btrans B2 ⟨hb⟩
  clear hb B2 E2 HG2
  go_wp2_with fail
  refine (code_err _ _ 3 w3 (HG.out.below B3) E3.out).mono ?_
  rintro e w4 ⟨rfl, hb⟩
  have E4 := Aside0.mk (E3.out.below ⟨hb⟩)
  have B4 := btrans B3 ⟨hb⟩
  clear hb B3 E3
  go_wp2_with fail
  refine (FIs_err _ _ 3 3 w4 (HG.out.below B4) E4.out).mono ?_
  rintro e w5 ⟨rfl, hb⟩
  have E5 := Aside0.mk (E4.out.below ⟨hb⟩)
  have B5 := btrans B4 ⟨hb⟩
  clear hb B4 E4
  go_wp2_with fail
  refine (FIs_err _ _ 3 2 w5 (HG.out.below B5) E5.out).mono ?_
  rintro e w6 ⟨rfl, hb⟩
  have E6 := Aside0.mk (E5.out.below ⟨hb⟩)
  have B6 := btrans B5 ⟨hb⟩
  clear hb B5 E5
  go_wp2_with fail
  refine (Path_calls _ _ 3 w6 (HG.out.below B6) E6.out (by decide)).mono ?_
  rintro e w7 ⟨v7, rfl, hR, hb⟩
  have R7 := Aside0.mk hR
  have B7 := btrans B6 ⟨hb⟩
  obtain ⟨A7, c7, rfl, -, -⟩ := Kd.R_reads R7.out
  clear hb hR B6 E6
  go_wp2_with fail
  obtain ⟨-, hl7, hC7⟩ := Kd.R_reads' R7.out
  have hb := below_alloc (Below.refl w7.heap.size w7) (.cells #[.string ⟨#[108, 105, 110, 107]⟩, .string ⟨#[102, 114, 97, 109, 101]⟩] 9)
  refine (Same01_calls [⟨#[108, 105, 110, 107]⟩, ⟨#[102, 114, 97, 109, 101]⟩] A7 c7 (some ⟨w7.heap.size, 0, none⟩) 2 _ (by decide) (Kd.C_below hC7 hb) hl7 (C_lit2 w7 _ _) (by decide)).mono ?_
  rintro e w8 ⟨rfl, hb8⟩
  have B8 := btrans (balloc B7 _) ⟨hb8⟩
  clear hb hb8 hl7 hC7 B7 R7
  go_wp2_with fail
  refine (wrap_nil _ w8).mono ?_
  rintro e wz ⟨rfl, hz⟩
  have hz := hz.symm
  subst hz
  go_wp2_with fail
  refine (code_nil w8).mono ?_
  rintro e wz ⟨rfl, hz⟩
  have hz := hz.symm
  subst hz
  go_wp2_with fail
  refine (code_err [] _ 4 w8 (HG.out.below B8) rfl).mono ?_
  rintro e w9 ⟨rfl, hb⟩
  have B9 := btrans B8 ⟨hb⟩
  clear hb B8
  go_wp2_with fail
  refine (Path_calls [] _ 4 w9 (HG.out.below B9) rfl (by decide)).mono ?_
  rintro e w10 ⟨v10, rfl, hR, hb⟩
  have B10 := btrans B9 ⟨hb⟩
  obtain ⟨A10, c10, rfl, -, -⟩ := Kd.R_reads hR
  clear hb hR B9
  go_wp2_with fail
  go_ret
  exact ⟨rfl, B10.out⟩
end Go.Proofs.YtcheifegfigegaaDoor.PE
