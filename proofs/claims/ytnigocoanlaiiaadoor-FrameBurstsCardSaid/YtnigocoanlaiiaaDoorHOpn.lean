/- frame: Open, of the code. -/
import Derived.Test.YtnigocoanlaiiaaDoorHEnc
namespace Go.Proofs.YtnigocoanlaiiaaDoor.PE
open Go.RowKit Go.Extern.Stop Go.Stop Go.Extern Go.Proofs.YtnigocoanlaiiaaDoorW.PrintWords Go.Proofs.YtnigocoanlaiiaaDoorW.PrintLast Go.Proofs.YtnigocoanlaiiaaDoorW.PrintMore
set_option linter.unusedVariables false
set_option linter.unusedSimpArgs false
/-- Do bytes bear their sum; the bytes without it. -/
def openOk (l : List Int) : Bool := decide (2 ≤ l.length) && decide (num (sumL l) = 0)
def openL (l : List Int) : List Int := if openOk l then l.take (l.length - 2) else []
set_option maxHeartbeats 8000000 in
set_option maxRecDepth 100000 in
theorem Open_calls (A : Option Addr) (c : Nat) (l : List Int) (w : World) (hC : Kd.C (Kd.int .u8) w A l.length l) (hc : l.length ≤ c) (hl : l.length ≤ 900000) :
    Calls Tryd.prog 20 #[.slice A l.length c] w fun e w' => ∃ v, e = .returned (.tuple #[v, .bool (openOk l)]) ∧ Kd.R (Kd.int .u8) 5 w' w.heap.size (fun _ => True) v (openL l) ∧ Below w.heap.size w w' := by
  have HC := Aside0.mk hC
  have HCC := Aside0.mk hc
  have HN := Aside0.mk hl
  clear hC hc
  by_cases h2 : (l.length : Int) < 2
  · have d2 : decide ((l.length : Int) < 2) = true := decide_eq_true h2
    have HO := Aside0.mk (show openOk l = false by unfold openOk; rw [decide_eq_false (by omega)]; rfl)
    have HL := Aside0.mk (show openL l = [] by unfold openL; rw [HO.out]; rfl)
    go_enter Tryd.func20, Tryd.ntmps20
    go_wp2_with fail
    go_ret2
    rw [HO.out, HL.out]
    exact ⟨_, rfl, Kd.R_nil _ _ _ _ _, Below.refl _ _⟩
  have d2 : decide ((l.length : Int) < 2) = false := decide_eq_false h2
  have HS := Aside0.mk (psum_f l (by omega))
  by_cases h0 : num (sumL l) = 0
  · have HO := Aside0.mk (show openOk l = true by unfold openOk; rw [decide_eq_true (by omega), decide_eq_true h0]; rfl)
    have HL := Aside0.mk (show openL l = l.take (l.length - 2) by unfold openL; rw [HO.out]; rfl)
    have hw : wrap64 ((l.length : Int) - 2) = l.length - 2 := by unfold wrap64; omega
    have HW := Aside0.mk hw
    clear hw
    rw [h0] at HS
    obtain ⟨i0, hi0, _, hsz, _⟩ := info_parts info5
    have hjj : 0 ≤ (l.length : Int) - 2 ∧ (l.length : Int) - 2 ≤ l.length := by omega
    obtain ⟨hcut, hA, hC2⟩ := print_take_of (P := Tryd.prog) (Value.int .u8) 0 22 5 .i64 Tryd.underlying22 hi0 hsz A c l ((l.length : Int) - 2) hjj.1 hjj.2 HCC.out
    have et : ((l.length : Int) - 2).toNat = l.length - 2 := by omega
    have HT := Aside0.mk (Kd.C_of_reads (h1 := fun _ => rfl) (hA w (Kd.reads_of_C HC.out)))
    have HCUT := Aside0.mk hcut
    have HC2 := Aside0.mk hC2
    have HET := Aside0.mk et
    clear hi0 hsz hA hC2 hcut et hjj
    go_enter Tryd.func20, Tryd.ntmps20
    go_wp2_with fail
    refine (PFrameCodes.crc_Sum.calls (l.length + 11) A c l 0 w HC.out HCC.out HS.out).mono ?_
    rintro e w1 ⟨rfl, hd⟩
    have B1 := Aside0.mk hd.below
    clear hd
    have hw := HW.out
    have hcut := HCUT.out
    go_wp2_with fail
    have hT := HT.out
    rw [HET.out] at hT
    have hlen : (l.take (l.length - 2)).length = l.length - 2 := by rw [List.length_take]; omega
    rw [hlen] at hT
    refine (clone_calls A (l.length - 2) c (l.take (l.length - 2)) w1 (Kd.C_below hT B1.out) (by omega)).mono ?_
    rintro e w2 ⟨v, rfl, hR, hb⟩
    have B2 := Aside0.mk (below_thenB B1.out hb B1.out.size)
    have R2 := Aside0.mk (Kd.R_lower hR B1.out.size)
    obtain ⟨A2, c2, hv, -, -⟩ := Kd.R_reads hR
    generalize (List.take (l.length - 2) l).length = m at hv
    subst hv
    clear hR hb hT hlen hcut hw
    go_wp2_with fail
    go_ret2
    rw [HO.out, HL.out]
    exact ⟨_, rfl, R2.out, B2.out⟩
  · have HO := Aside0.mk (show openOk l = false by unfold openOk; rw [decide_eq_false h0, Bool.and_false])
    have HL := Aside0.mk (show openL l = [] by unfold openL; rw [HO.out]; rfl)
    have dn : (num (sumL l) != 0) = true := by simpa using h0
    generalize num (sumL l) = M at HS dn h0
    go_enter Tryd.func20, Tryd.ntmps20
    go_wp2_with fail
    refine (PFrameCodes.crc_Sum.calls (l.length + 11) A c l M w HC.out HCC.out HS.out).mono ?_
    rintro e w1 ⟨rfl, hd⟩
    have B1 := Aside0.mk hd.below
    clear hd
    go_wp2_with fail
    go_ret2
    rw [HO.out, HL.out]
    exact ⟨_, rfl, Kd.R_nil _ _ _ _ _, B1.out⟩
end Go.Proofs.YtnigocoanlaiiaaDoor.PE
