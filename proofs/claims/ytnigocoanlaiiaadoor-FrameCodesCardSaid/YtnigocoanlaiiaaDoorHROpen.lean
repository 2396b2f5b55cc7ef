/- frame: Open and Encode, of the reference. -/
import Derived.Test.YtnigocoanlaiiaaDoorHRes
namespace Go.Proofs.YtnigocoanlaiiaaDoor.PE
open Go.RowKit Go.Extern.Stop Go.Stop Go.Extern Go.Proofs.YtnigocoanlaiiaaDoorW.PrintWords Go.Proofs.YtnigocoanlaiiaaDoorW.PrintLast Go.Proofs.YtnigocoanlaiiaaDoorW.PrintMore
set_option linter.unusedVariables false
set_option linter.unusedSimpArgs false
theorem C_at {W : World} {A : Option Addr} {n : Nat} {xs : List Int} (h : Kd.C (Kd.int .u8) W A n xs) (h0 : 0 < n) : ∃ ad, A = some ad ∧ ∀ i, i < n → W.cell? (ad.add i) = some (.int .u8 (at_ xs i)) := by
  obtain ⟨ad, rfl, hcell⟩ := h.2.2 h0
  refine ⟨ad, rfl, fun i hi => ?_⟩
  have hl : xs.length = n := h.1
  obtain ⟨y, hy⟩ : ∃ y, xs[i]? = some y := ⟨xs[i]'(by omega), List.getElem?_eq_getElem (by omega)⟩
  obtain ⟨cs, hlen, hK, hu⟩ := hcell i y hy
  have hK' : cs = [.int .u8 y] := hK
  subst hK'
  have h2 := hu 0 _ rfl
  have e : at_ xs i = y := by unfold at_; rw [List.getD_eq_getElem?_getD, hy]; rfl
  have e2 : i * (Kd.int .u8).sz + 0 = i := by show i * 1 + 0 = i; omega
  rw [e2] at h2
  rw [e]
  exact h2
open PFrameCodes in
theorem REncode_calls (ch sq : Int) (A : Option Addr) (c : Nat) (xs : List Int) (w : World) (hC : Kd.C (Kd.int .u8) w A xs.length xs) (hc : xs.length ≤ c) (hx : xs.length ≤ 300) :
    Calls Tryd.prog 11 #[.agg #[.int .i64 ch, .int .i64 sq, .slice A xs.length c]] w fun e w' => ∃ v, e = .returned (.tuple #[v, .int .i64 (encE ch sq xs.length)]) ∧ Kd.R (Kd.int .u8) 5 w' w.heap.size (fun _ => True) v (encB ch sq xs) ∧ Below w.heap.size w w' := by
  refine crossbuckref06_Encode.calls (xs.length + 14) ch sq A c xs _ _ w hC hc ?_
  unfold crossbuckref06_Encode.f
  by_cases ha : argF ch sq xs.length
  · have e1 : encE ch sq xs.length = 1 := if_pos ha
    have e2 : encB ch sq xs = [] := if_pos ha
    rw [e1, e2]
    unfold argF at ha
    by_cases h0 : ch < 0
    · exact if_pos h0
    rw [if_neg h0]
    by_cases h1 : ch > 15
    · exact if_pos h1
    rw [if_neg h1]
    by_cases h2 : sq < 0
    · exact if_pos h2
    rw [if_neg h2]
    by_cases h3 : sq > 255
    · exact if_pos h3
    rw [if_neg h3]
    exact if_pos (by omega)
  · have e1 : encE ch sq xs.length = 0 := if_neg ha
    have e2 : encB ch sq xs = encL ch sq xs := if_neg ha
    rw [e1, e2]
    unfold argF at ha
    rw [if_neg (by omega), if_neg (by omega), if_neg (by omega), if_neg (by omega), if_neg (by omega)]
    have m1 : ch % 256 = ch := by omega
    have m2 : sq % 256 = sq := by omega
    have m3 : (xs.length : Int) % 256 = xs.length := by omega
    rw [m1, m2, m3]
    show (if ([ch, sq, (xs.length : Int)] : List Int).length + xs.length < 140737488355328 then ((crossbuckref02_Seal.f (xs.length + 14) ([ch, sq, (xs.length : Int)] ++ xs)).bind fun t125 => (some (t125, (0 : Int)))) else none) = some (encL ch sq xs, 0)
    rw [if_pos (by simp; omega)]
    unfold encL
    generalize hL : ([ch, sq, (xs.length : Int)] ++ xs : List Int) = L
    have hl : L.length + 11 = xs.length + 14 := by rw [← hL]; simp
    have hs : crossbuckref02_Seal.f (L.length + 11) L = some (sealL L) := by
      unfold crossbuckref02_Seal.f
      rw [rsum_f L (by omega)]
      have hn := num_lt (sumL L)
      generalize hN : num (sumL L) = M at hn ⊢
      simp only [Option.bind_some, List.length_nil, List.nil_append]
      rw [if_pos (by omega), if_pos (by simp; omega), wrap16]
      have e1 : (M.tdiv 256 % 65536) % 256 = M / 256 := by
        rw [Int.tdiv_eq_ediv_of_nonneg hn.1]; omega
      have e2 : (M.tmod 256) % 256 = M % 256 := by
        rw [Int.tmod_eq_emod_of_nonneg hn.1]; omega
      rw [e1, e2]
      unfold sealL
      rw [hN]
    rw [← hl, hs]
    rfl
/-- The last two bytes are the sum of the rest, exactly if the whole sum is zero. -/
theorem open_iff {l : List Int} (hb : Bytes l) (j : Nat) (hj : l.length = j + 2) : openOk l = true ↔ at_ l j = num (sumL (l.take j)) / 256 ∧ at_ l (j + 1) = num (sumL (l.take j)) % 256 := by
  have hl : l = l.take j ++ [at_ l j, at_ l (j + 1)] := by
    have h1 : l.drop j = [at_ l j, at_ l (j + 1)] := by
      unfold at_
      rw [List.getD_eq_getElem?_getD, List.getD_eq_getElem?_getD, List.getElem?_eq_getElem (by omega), List.getElem?_eq_getElem (by omega)]
      rw [List.drop_eq_getElem_cons (by omega), List.drop_eq_getElem_cons (by omega), List.drop_eq_nil_of_le (by omega)]
      rfl
    rw [← h1, List.take_append_drop]
  have h0 := bytes_at hb j
  have h1 := bytes_at hb (j + 1)
  have hs : num (sumL l) = num (B (B (sumL (l.take j)) (at_ l j)) (at_ l (j + 1))) := by
    have := sumL_two (l.take j) (at_ l j) (at_ l (j + 1))
    rw [← hl] at this
    rw [this]
  have hn := num_lt (sumL (l.take j))
  have hr := residue (sumL (l.take j)) _ _ h0 h1
  constructor
  · intro h
    have hz : num (sumL l) = 0 := by
      unfold openOk at h
      exact of_decide_eq_true (Bool.and_eq_true_iff.1 h).2
    rw [hs] at hz
    have := hr.1 hz
    omega
  · intro h
    have hz := hr.2 (by omega)
    rw [← hs] at hz
    unfold openOk
    rw [decide_eq_true hz, decide_eq_true (by omega)]; rfl
set_option maxHeartbeats 8000000 in
set_option maxRecDepth 100000 in
theorem ROpen_calls (A : Option Addr) (c : Nat) (l : List Int) (w : World) (hC : Kd.C (Kd.int .u8) w A l.length l) (hc : l.length ≤ c) (hl : l.length ≤ 900000) (hb : Bytes l) :
    Calls Tryd.prog 21 #[.slice A l.length c] w fun e w' => ∃ v, e = .returned (.tuple #[v, .bool (openOk l)]) ∧ Kd.R (Kd.int .u8) 5 w' w.heap.size (fun _ => True) v (openL l) ∧ Below w.heap.size w w' := by
  have HC := Aside0.mk hC
  have HCC := Aside0.mk hc
  have HN := Aside0.mk hl
  have HBL := Aside0.mk hb
  clear hC hc hb
  by_cases h2 : l.length < 2
  · have HO := Aside0.mk (show openOk l = false by unfold openOk; rw [decide_eq_false (by omega)]; rfl)
    have HL := Aside0.mk (show openL l = [] by unfold openL; rw [HO.out]; rfl)
    have HW := Aside0.mk (show wrap64 ((l.length : Int) - 2) = l.length - 2 by unfold wrap64; omega)
    have d2 : decide ((l.length : Int) - 2 < 0) = true := decide_eq_true (by omega)
    have hw := HW.out
    go_enter Tryd.func21, Tryd.ntmps21
    go_wp2_with fail
    go_ret2
    rw [HO.out, HL.out]
    exact ⟨_, rfl, Kd.R_nil _ _ _ _ _, Below.refl _ _⟩
  obtain ⟨j, hj⟩ : ∃ j, l.length = j + 2 := ⟨l.length - 2, by omega⟩
  obtain ⟨ad, rfl, hcell⟩ := C_at HC.out (by omega)
  have y0 := hcell j (by omega)
  have y1 := hcell (j + 1) (by omega)
  have HIF := Aside0.mk (open_iff HBL.out j hj)
  have HJ9 := Aside0.mk (show j ≤ 900000 by omega)
  have HW1 := Aside0.mk (show wrap64 (j : Int) = j by unfold wrap64; omega)
  have HW2 := Aside0.mk (show wrap64 ((j : Int) + 1) = j + 1 by unfold wrap64; omega)
  have i0 : 0 ≤ (j : Int) ∧ (j : Int) < ((j + 2 : Nat) : Int) := by omega
  have i1 : 0 ≤ (j : Int) + 1 ∧ (j : Int) + 1 < ((j + 2 : Nat) : Int) := by omega
  have dj : decide ((j : Int) < 0) = false := decide_eq_false (by omega)
  obtain ⟨t0, hi0, _, hsz, _⟩ := info_parts info5
  obtain ⟨hcut, hA, hC2⟩ := print_take_of (P := Tryd.prog) (Value.int .u8) 0 22 5 .i64 Tryd.underlying22 hi0 hsz (some ad) c l (j : Int) (by omega) (by omega) HCC.out
  have htl : (l.take ((j : Int)).toNat).length = j := by rw [List.length_take]; omega
  have hjt : ((j : Int)).toNat = j := by omega
  have HT := Aside0.mk (Kd.C_of_reads (h1 := fun _ => rfl) (hA w (Kd.reads_of_C HC.out)))
  rw [htl, hjt] at HT
  rw [htl] at hcut hC2
  have HC2 := Aside0.mk hC2
  have HTJ := Aside0.mk (show (l.take j).length = j by rw [List.length_take]; omega)
  have HS := Aside0.mk (rsum_f (l.take j) (by rw [List.length_take]; omega))
  have HNN := Aside0.mk (num_lt (sumL (l.take j)))
  have HCUT := Aside0.mk hcut
  have HLL := Aside0.mk (show openOk l = true → openL l = l.take j from fun h => by
    have hL : openL l = l.take (l.length - 2) := by unfold openL; rw [h]; rfl
    rw [hL]; congr 1; omega)
  rw [hj] at HCUT
  rw [hj]
  clear hi0 hsz hA hC2 htl hjt hcell hcut hj h2
  generalize num (sumL (l.take j)) = M at HIF HS HNN
  have HY0 := Aside0.mk y0
  have HY1 := Aside0.mk y1
  clear y0 y1
  have HE1 := Aside0.mk (show IntKind.u16.wrap (M.tdiv 256) % 256 = M / 256 by
    have := HNN.out
    rw [wrap16, Int.tdiv_eq_ediv_of_nonneg this.1]; omega)
  have HE2 := Aside0.mk (show M.tmod 256 % 256 = M % 256 by
    have := HNN.out
    rw [Int.tmod_eq_emod_of_nonneg this.1]; omega)
  have hcut := HCUT.out
  have hw := HW1.out
  go_enter Tryd.func21, Tryd.ntmps21
  go_wp2_with fail
  have hT := HT.out
  have hS := HS.out
  rw [HTJ.out] at hS
  have hA := PFrameCodes.crossbuckref02_Sum.calls (j + 11) (some ad) c (l.take j) M w (by rw [HTJ.out]; exact hT) (by rw [HTJ.out]; exact HC2.out) hS
  rw [HTJ.out] at hA
  refine hA.mono ?_
  clear hA hT hS
  rintro e w1 ⟨rfl, hd⟩
  have B1 := Aside0.mk hd.below
  clear hd
  have y0 := pw_cell_below B1.out HY0.out
  have ead : ad.add (j + 1) = ⟨ad.block, ad.off + (j + 1), none⟩ := by unfold Addr.add; simp
  have y1 : World.cell? w1 ⟨ad.block, ad.off + (j + 1), none⟩ = some (.int .u8 (at_ l (j + 1))) := by rw [← ead]; exact pw_cell_below B1.out HY1.out
  clear ead
  have hw2 := HW2.out
  have info5 := info5
  by_cases c0 : at_ l j = M / 256
  · have hq0 : (at_ l j != IntKind.u16.wrap (M.tdiv 256) % 256) = false := by rw [HE1.out]; simpa using c0
    by_cases c1 : at_ l (j + 1) = M % 256
    · have hq1 : (at_ l (j + 1) != M.tmod 256 % 256) = false := by rw [HE2.out]; simpa using c1
      have HO := Aside0.mk (HIF.out.2 ⟨c0, c1⟩)
      clear c0 c1
      go_wp2_with ((with_reducible refine gate_builtin (b := .append) (xs := #[.tmp 34, .tmp 37]) rfl ?_); at_builtin; refine Kd.R_append_rows (Kd.int .u8) (w0 := w1) w1.heap.size rfl (.tmp 34) (.tmp 37) 22 5 (.int .u8 0) 1 rfl Tryd.underlying22 info5 rfl (by decide) (by decide) (.slice (some ⟨w1.heap.size, 0, none⟩) 0 0) [] (l.take j) (some ad) j c (fun _ => True) (fun _ => False) rfl rfl ?aO ?aR (fun _ _ h => h) (fun _ h => h.elim) (fun _ _ => trivial) ?aB ?aS ?aL ?_)
      case aO => exact R_empty w1
      case aR => exact Kd.C_alloc (Kd.C_below HT.out B1.out) _
      case aB => exact below_alloc (Below.refl _ _) _
      try case aS => simp
      case aL => simp; exact Nat.le_trans HJ9.out (by decide)
      intro v2 w2 ho hb hg hat
      have R2 : Aside0 (Kd.R (Kd.int .u8) 5 w2 w1.heap.size (fun _ => True) v2 (l.take j)) := ⟨by simpa using ho⟩
      have B2 := Aside0.mk (below_thenB B1.out hb B1.out.size)
      obtain ⟨A2, c2, hv, -, -⟩ := Kd.R_reads ho
      generalize (([] : List Int) ++ List.take j l).length = m at hv
      subst hv
      clear ho hb hg hat
      go_wp2_with fail
      go_ret2
      rw [HLL.out HO.out, HO.out]
      exact ⟨_, rfl, Kd.R_lower R2.out B1.out.size, B2.out⟩
    · have hq1 : (at_ l (j + 1) != M.tmod 256 % 256) = true := by rw [HE2.out]; simpa using c1
      have HO := Aside0.mk (show openOk l = false by
        cases h : openOk l with
        | false => rfl
        | true => exact absurd (HIF.out.1 h).2 c1)
      have HL := Aside0.mk (show openL l = [] by unfold openL; rw [HO.out]; rfl)
      clear c0 c1
      go_wp2_with fail
      go_ret2
      rw [HO.out, HL.out]
      exact ⟨_, rfl, Kd.R_nil _ _ _ _ _, B1.out⟩
  · have hq0 : (at_ l j != IntKind.u16.wrap (M.tdiv 256) % 256) = true := by rw [HE1.out]; simpa using c0
    have HO := Aside0.mk (show openOk l = false by
      cases h : openOk l with
      | false => rfl
      | true => exact absurd (HIF.out.1 h).1 c0)
    have HL := Aside0.mk (show openL l = [] by unfold openL; rw [HO.out]; rfl)
    clear c0
    go_wp2_with fail
    go_ret2
    rw [HO.out, HL.out]
    exact ⟨_, rfl, Kd.R_nil _ _ _ _ _, B1.out⟩
end Go.Proofs.YtnigocoanlaiiaaDoor.PE
