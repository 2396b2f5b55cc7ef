/- frame: FrameShort's walk. -/
import Derived.Test.YtfijlaahifeimaaDoorMB
import Derived.Deep.RegionHeld3
namespace Go.Proofs.YtfijlaahifeimaaDoor.PE
open Go.RowKit Go.Extern.Stop Go.Stop Go.Extern Go.Proofs.YtfijlaahifeimaaDoorW.PrintWords Go.Proofs.YtfijlaahifeimaaDoorW.PrintLast Go.Proofs.YtfijlaahifeimaaDoorW.PrintMore
set_option linter.unusedVariables false
set_option linter.unusedSimpArgs false
theorem dec_len {l : List Int} (h : decE l = 0) : (decD l).length + 5 = l.length := by
  have hD : decD l = (openL l).drop 3 := by unfold decD; rw [if_pos h]
  unfold decE at h
  have hok : openOk l = true := by
    cases hk : openOk l with
    | true => rfl
    | false => rw [if_pos hk] at h; exact absurd h (by decide)
  rw [if_neg (by rw [hok]; decide)] at h
  have hf : ¬ formBad (openL l) := fun hf => by rw [if_pos hf] at h; exact absurd h (by decide)
  have hL : openL l = l.take (l.length - 2) := by unfold openL; rw [hok]; rfl
  have h2 : 2 ≤ l.length := by
    unfold openOk at hok
    exact of_decide_eq_true (Bool.and_eq_true_iff.1 hok).1
  have h3 : 3 ≤ (openL l).length := by unfold formBad at hf; omega
  rw [hD, List.length_drop]
  rw [hL, List.length_take] at h3 ⊢
  omega
theorem dec_enc {ch sq : Int} {xs : List Int} (h : decE (encL ch sq xs) = 0) : decC (encL ch sq xs) = ch ∧ decQ (encL ch sq xs) = sq ∧ decD (encL ch sq xs) = xs := by
  have hok : openOk (encL ch sq xs) = true := by
    cases hk : openOk (encL ch sq xs) with
    | true => rfl
    | false =>
      have h2 := h
      unfold decE at h2
      rw [if_pos hk] at h2; exact absurd h2 (by decide)
  have hL : openL (encL ch sq xs) = [ch, sq, (xs.length : Int)] ++ xs := by
    unfold openL
    rw [hok, if_pos rfl, encL_len]
    unfold encL sealL
    rw [List.take_append_of_le_length (by simp; omega), List.take_of_length_le (by simp; omega)]
  unfold decC decQ decD
  rw [if_pos h, if_pos h, if_pos h, hL]
  exact ⟨rfl, rfl, rfl⟩
end Go.Proofs.YtfijlaahifeimaaDoor.PE
/- frame: bytes bear their sum if and only if the last two are the sum of the rest. -/
namespace Go.Proofs.YtfijlaahifeimaaDoor.PE
open Go.RowKit Go.Proofs.YtfijlaahifeimaaDoorW.PrintWords
set_option linter.unusedVariables false
set_option linter.unusedSimpArgs false
theorem low_all : ∀ z : Fin 256, Tn 8 (BitVec.ofNat 16 z.val) = BitVec.ofNat 16 z.val <<< 8 := by decide +kernel
theorem low_byte (b : Int) (h : 0 ≤ b ∧ b ≤ 255) : Tn 8 (BitVec.ofInt 16 b) = BitVec.ofInt 16 b <<< 8 := by
  obtain ⟨n, rfl⟩ := Int.eq_ofNat_of_zero_le h.1
  have e : BitVec.ofInt 16 ((n : Nat) : Int) = BitVec.ofNat 16 n := BitVec.ofInt_natCast _ _
  rw [e]
  exact low_all ⟨n, by omega⟩
theorem xor_nat (a b : Nat) (hb : b < 256) : (2 ^ 8 * a) ^^^ b = 2 ^ 8 * a + b := by
  apply Nat.eq_of_testBit_eq
  intro i
  rw [Nat.testBit_xor, Nat.testBit_two_pow_mul, Nat.testBit_two_pow_mul_add a (show b < 2 ^ 8 by omega)]
  by_cases h : i < 8
  · rw [if_pos h, decide_eq_false (by omega)]; simp
  · rw [if_neg h, decide_eq_true (by omega)]
    have hb2 : b.testBit i = false := Nat.testBit_lt_two_pow (Nat.lt_of_lt_of_le (show b < 2 ^ 8 by omega) (Nat.pow_le_pow_right (by omega) (by omega)))
    rw [hb2]; simp
theorem pair_num (a b : Int) (ha : 0 ≤ a ∧ a ≤ 255) (hb : 0 ≤ b ∧ b ≤ 255) : num ((BitVec.ofInt 16 a <<< 8) ^^^ BitVec.ofInt 16 b) = a * 256 + b := by
  obtain ⟨m, rfl⟩ := Int.eq_ofNat_of_zero_le ha.1
  obtain ⟨n, rfl⟩ := Int.eq_ofNat_of_zero_le hb.1
  rw [BitVec.ofInt_natCast, BitVec.ofInt_natCast]
  unfold num
  rw [BitVec.toNat_xor, BitVec.toNat_shiftLeft, BitVec.toNat_ofNat, BitVec.toNat_ofNat, Nat.shiftLeft_eq, Nat.mod_eq_of_lt (show m < 2 ^ 16 by omega), Nat.mod_eq_of_lt (show n < 2 ^ 16 by omega), Nat.mod_eq_of_lt (show m * 2 ^ 8 < 2 ^ 16 by omega), Nat.mul_comm, xor_nat m n (by omega)]
  omega
theorem num_inj {s t : BitVec 16} (h : num s = num t) : s = t := by
  apply BitVec.eq_of_toNat_eq
  unfold num at h
  omega
theorem num_zero (s : BitVec 16) : num s = 0 ↔ s = 0#16 := by
  constructor
  · intro h; exact num_inj (by rw [h]; rfl)
  · rintro rfl; rfl
theorem residue (S : BitVec 16) (a b : Int) (ha : 0 ≤ a ∧ a ≤ 255) (hb : 0 ≤ b ∧ b ≤ 255) : num (B (B S a) b) = 0 ↔ num S = a * 256 + b := by
  rw [num_zero]
  have h1 : B (B S a) b = 0#16 ↔ S = (BitVec.ofInt 16 a <<< 8) ^^^ BitVec.ofInt 16 b := by
    constructor
    · intro h
      unfold B at h
      have h2 := BitVec.xor_eq_zero_iff.1 (Tn_ker 8 _ h)
      rw [← low_byte b hb] at h2
      have h3 := Tn_inj 8 _ _ h2
      rw [← h3, BitVec.xor_comm S, ← BitVec.xor_assoc, BitVec.xor_self, BitVec.zero_xor]
    · intro h
      unfold B
      rw [h, BitVec.xor_comm (BitVec.ofInt 16 a <<< 8), BitVec.xor_assoc, BitVec.xor_self, BitVec.xor_zero, low_byte b hb, BitVec.xor_self]
      exact Tn_zero 8
  rw [h1]
  constructor
  · intro h; rw [h, pair_num a b ha hb]
  · intro h; exact num_inj (by rw [h, pair_num a b ha hb])
theorem sumL_two (l : List Int) (a b : Int) : sumL (l ++ [a, b]) = B (B (sumL l) a) b := by
  unfold sumL crcL
  rw [List.foldl_append]; rfl
theorem open_seal (l : List Int) : openOk (sealL l) = true ∧ openL (sealL l) = l := by
  have hn := num_lt (sumL l)
  have h0 : num (sumL (sealL l)) = 0 := by
    unfold sealL
    rw [sumL_two]
    exact (residue _ _ _ (by omega) (by omega)).2 (by omega)
  have hok : openOk (sealL l) = true := by
    unfold openOk
    rw [decide_eq_true h0, decide_eq_true (by rw [sealL_len]; omega)]; rfl
  refine ⟨hok, ?_⟩
  unfold openL
  rw [hok, if_pos rfl, sealL_len]
  unfold sealL
  rw [Nat.add_sub_cancel, List.take_left']
  rfl
theorem seal_open {l : List Int} (hb : Bytes l) (h : openOk l = true) : l = sealL (openL l) := by
  have h2 : 2 ≤ l.length := by
    unfold openOk at h
    exact of_decide_eq_true (Bool.and_eq_true_iff.1 h).1
  have h0 : num (sumL l) = 0 := by
    unfold openOk at h
    exact of_decide_eq_true (Bool.and_eq_true_iff.1 h).2
  have hL : openL l = l.take (l.length - 2) := by unfold openL; rw [h]; rfl
  obtain ⟨a, b, hd⟩ : ∃ a b, l.drop (l.length - 2) = [a, b] := by
    have hlen : (l.drop (l.length - 2)).length = 2 := by rw [List.length_drop]; omega
    match hm : l.drop (l.length - 2) with
    | [] => rw [hm] at hlen; simp at hlen
    | [x] => rw [hm] at hlen; simp at hlen
    | [x, y] => exact ⟨x, y, rfl⟩
    | x :: y :: z :: t => rw [hm] at hlen; simp at hlen
  have hl : l = l.take (l.length - 2) ++ [a, b] := by rw [← hd, List.take_append_drop]
  have ha := hb a (by rw [hl]; simp)
  have hb2 := hb b (by rw [hl]; simp)
  rw [hL]
  generalize l.take (l.length - 2) = m at hl
  rw [hl] at h0 ⊢
  rw [sumL_two] at h0
  have hr := (residue _ a b ha hb2).1 h0
  unfold sealL
  rw [hr]
  have e1 : (a * 256 + b) / 256 = a := by omega
  have e2 : (a * 256 + b) % 256 = b := by omega
  rw [e1, e2]
/-- What was encoded is decoded as it was. -/
theorem dec_of_enc {ch sq : Int} {xs : List Int} (ha : ¬ argF ch sq xs.length) : decE (encL ch sq xs) = 0 := by
  have h := open_seal ([ch, sq, (xs.length : Int)] ++ xs)
  have hL : openL (encL ch sq xs) = [ch, sq, (xs.length : Int)] ++ xs := h.2
  have hok : openOk (encL ch sq xs) = true := h.1
  unfold decE
  rw [if_neg (by rw [hok]; decide), if_neg]
  rw [hL]
  unfold argF at ha
  unfold formBad
  have e0 : at_ ([ch, sq, (xs.length : Int)] ++ xs) 0 = ch := rfl
  have e2 : at_ ([ch, sq, (xs.length : Int)] ++ xs) 2 = (xs.length : Int) := rfl
  rw [e0, e2]
  simp
  omega
/-- What is decoded has one form. -/
theorem enc_of_dec {l : List Int} (hb : Bytes l) (h : decE l = 0) : ¬ argF (decC l) (decQ l) (decD l).length ∧ encL (decC l) (decQ l) (decD l) = l := by
  have hC : decC l = at_ (openL l) 0 := by unfold decC; rw [if_pos h]
  have hQ : decQ l = at_ (openL l) 1 := by unfold decQ; rw [if_pos h]
  have hD : decD l = (openL l).drop 3 := by unfold decD; rw [if_pos h]
  have hok : openOk l = true := by
    cases hk : openOk l with
    | true => rfl
    | false => unfold decE at h; rw [if_pos hk] at h; exact absurd h (by decide)
  have hf : ¬ formBad (openL l) := fun hf => by
    unfold decE at h
    rw [if_neg (by rw [hok]; decide), if_pos hf] at h; exact absurd h (by decide)
  have hs := seal_open hb hok
  have hbo := bytes_open hb
  rw [hC, hQ, hD]
  generalize openL l = x at hs hf hbo
  have b0 := bytes_at hbo 0
  have b1 := bytes_at hbo 1
  unfold formBad at hf
  match x, hf, hbo, hs with
  | [], hf, _, _ => simp at hf
  | [_], hf, _, _ => simp at hf
  | [_, _], hf, _, _ => simp at hf
  | a :: b :: c :: t, hf, hbo, hs =>
    have e0 : at_ (a :: b :: c :: t) 0 = a := rfl
    have e1 : at_ (a :: b :: c :: t) 1 = b := rfl
    have e2 : at_ (a :: b :: c :: t) 2 = c := rfl
    rw [e0, e2] at hf
    rw [e0] at b0
    rw [e1] at b1
    rw [e0, e1]
    simp only [List.length_cons] at hf
    simp only [List.drop_succ_cons, List.drop_zero]
    have hc : c = (t.length : Int) := by omega
    refine ⟨by unfold argF; omega, ?_⟩
    rw [hs]
    unfold encL
    rw [hc]; rfl
end Go.Proofs.YtfijlaahifeimaaDoor.PE
/- frame: Open and Encode, of the reference. -/
namespace Go.Proofs.YtfijlaahifeimaaDoor.PE
open Go.RowKit Go.Extern.Stop Go.Stop Go.Extern Go.Proofs.YtfijlaahifeimaaDoorW.PrintWords Go.Proofs.YtfijlaahifeimaaDoorW.PrintLast Go.Proofs.YtfijlaahifeimaaDoorW.PrintMore
set_option linter.unusedVariables false
set_option linter.unusedSimpArgs false
theorem C_at {W : World} {A : Option Addr} {n : Nat} {xs : List Int} (h : Kd.C (Kd.int .u8) W A n xs) (h0 : 0 < n) : ∃ ad, A = some ad ∧ ∀ i, i < n → W.cell? (ad.add i) = some (.int .u8 (at_ xs i)) := by
  obtain ⟨ad, rfl, hcell⟩ := h.2.2 h0
  refine ⟨ad, rfl, fun i hi => ?_⟩
  have hl : xs.length = n := h.1
  obtain ⟨y, hy⟩ : ∃ y, xs[i]? = some y := ⟨xs[i]'(by omega), List.getElem?_eq_getElem (by omega)⟩
  obtain ⟨cs, hlen, hK, hu⟩ := hcell i y hy
  have hK' : cs = [.int .u8 y] := hK
  subst hK'
  have h2 := hu 0 _ rfl
  have e : at_ xs i = y := by unfold at_; rw [List.getD_eq_getElem?_getD, hy]; rfl
  have e2 : i * (Kd.int .u8).sz + 0 = i := by show i * 1 + 0 = i; omega
  rw [e2] at h2
  rw [e]
  exact h2
/-- The last two bytes are the sum of the rest, exactly if the whole sum is zero. -/
theorem open_iff {l : List Int} (hb : Bytes l) (j : Nat) (hj : l.length = j + 2) : openOk l = true ↔ at_ l j = num (sumL (l.take j)) / 256 ∧ at_ l (j + 1) = num (sumL (l.take j)) % 256 := by
  have hl : l = l.take j ++ [at_ l j, at_ l (j + 1)] := by
    have h1 : l.drop j = [at_ l j, at_ l (j + 1)] := by
      unfold at_
      rw [List.getD_eq_getElem?_getD, List.getD_eq_getElem?_getD, List.getElem?_eq_getElem (by omega), List.getElem?_eq_getElem (by omega)]
      rw [List.drop_eq_getElem_cons (by omega), List.drop_eq_getElem_cons (by omega), List.drop_eq_nil_of_le (by omega)]
      rfl
    rw [← h1, List.take_append_drop]
  have h0 := bytes_at hb j
  have h1 := bytes_at hb (j + 1)
  have hs : num (sumL l) = num (B (B (sumL (l.take j)) (at_ l j)) (at_ l (j + 1))) := by
    have := sumL_two (l.take j) (at_ l j) (at_ l (j + 1))
    rw [← hl] at this
    rw [this]
  have hn := num_lt (sumL (l.take j))
  have hr := residue (sumL (l.take j)) _ _ h0 h1
  constructor
  · intro h
    have hz : num (sumL l) = 0 := by
      unfold openOk at h
      exact of_decide_eq_true (Bool.and_eq_true_iff.1 h).2
    rw [hs] at hz
    have := hr.1 hz
    omega
  · intro h
    have hz := hr.2 (by omega)
    rw [← hs] at hz
    unfold openOk
    rw [decide_eq_true hz, decide_eq_true (by omega)]; rfl
set_option maxHeartbeats 8000000 in
set_option maxRecDepth 100000 in
theorem ROpen_calls (A : Option Addr) (c : Nat) (l : List Int) (w : World) (hC : Kd.C (Kd.int .u8) w A l.length l) (hc : l.length ≤ c) (hl : l.length ≤ 140737488351232) (hb : Bytes l) :
    Calls Tryd.prog 69 #[.slice A l.length c] w fun e w' => ∃ v, e = .returned (.tuple #[v, .bool (openOk l)]) ∧ Kd.R (Kd.int .u8) 5 w' w.heap.size (fun _ => True) v (openL l) ∧ Below w.heap.size w w' := by
  have HC := Aside0.mk hC
  have HCC := Aside0.mk hc
  have HN := Aside0.mk hl
  have HBL := Aside0.mk hb
  clear hC hc hb
  by_cases h2 : l.length < 2
  · have HO := Aside0.mk (show openOk l = false by unfold openOk; rw [decide_eq_false (by omega)]; rfl)
    have HL := Aside0.mk (show openL l = [] by unfold openL; rw [HO.out]; rfl)
    have HW := Aside0.mk (show wrap64 ((l.length : Int) - 2) = l.length - 2 by unfold wrap64; omega)
    have d2 : decide ((l.length : Int) - 2 < 0) = true := decide_eq_true (by omega)
    have hw := HW.out
    go_enter Tryd.func69, Tryd.ntmps69
    go_wp2_with fail
    go_ret2
    rw [HO.out, HL.out]
    exact ⟨_, rfl, Kd.R_nil _ _ _ _ _, Below.refl _ _⟩
  obtain ⟨j, hj⟩ : ∃ j, l.length = j + 2 := ⟨l.length - 2, by omega⟩
  obtain ⟨ad, rfl, hcell⟩ := C_at HC.out (by omega)
  have y0 := hcell j (by omega)
  have y1 := hcell (j + 1) (by omega)
  have HIF := Aside0.mk (open_iff HBL.out j hj)
  have HJ9 := Aside0.mk (show j ≤ 140737488351232 by omega)
  have HW1 := Aside0.mk (show wrap64 (j : Int) = j by unfold wrap64; omega)
  have HW2 := Aside0.mk (show wrap64 ((j : Int) + 1) = j + 1 by unfold wrap64; omega)
  have i0 : 0 ≤ (j : Int) ∧ (j : Int) < ((j + 2 : Nat) : Int) := by omega
  have i1 : 0 ≤ (j : Int) + 1 ∧ (j : Int) + 1 < ((j + 2 : Nat) : Int) := by omega
  have dj : decide ((j : Int) < 0) = false := decide_eq_false (by omega)
  obtain ⟨t0, hi0, _, hsz, _⟩ := info_parts info5
  obtain ⟨hcut, hA, hC2⟩ := print_take_of (P := Tryd.prog) (Value.int .u8) 0 44 5 .i64 Tryd.underlying44 hi0 hsz (some ad) c l (j : Int) (by omega) (by omega) HCC.out
  have htl : (l.take ((j : Int)).toNat).length = j := by rw [List.length_take]; omega
  have hjt : ((j : Int)).toNat = j := by omega
  have HT := Aside0.mk (Kd.C_of_reads (h1 := fun _ => rfl) (hA w (Kd.reads_of_C HC.out)))
  rw [htl, hjt] at HT
  rw [htl] at hcut hC2
  have HC2 := Aside0.mk hC2
  have HTJ := Aside0.mk (show (l.take j).length = j by rw [List.length_take]; omega)
  have HS := Aside0.mk (rsum_f (l.take j) (by rw [List.length_take]; omega))
  have HNN := Aside0.mk (num_lt (sumL (l.take j)))
  have HCUT := Aside0.mk hcut
  have HLL := Aside0.mk (show openOk l = true → openL l = l.take j from fun h => by
    have hL : openL l = l.take (l.length - 2) := by unfold openL; rw [h]; rfl
    rw [hL]; congr 1; omega)
  rw [hj] at HCUT
  rw [hj]
  clear hi0 hsz hA hC2 htl hjt hcell hcut hj h2
  generalize num (sumL (l.take j)) = M at HIF HS HNN
  have HY0 := Aside0.mk y0
  have HY1 := Aside0.mk y1
  clear y0 y1
  have HE1 := Aside0.mk (show IntKind.u16.wrap (M.tdiv 256) % 256 = M / 256 by
    have := HNN.out
    rw [wrap16, Int.tdiv_eq_ediv_of_nonneg this.1]; omega)
  have HE2 := Aside0.mk (show M.tmod 256 % 256 = M % 256 by
    have := HNN.out
    rw [Int.tmod_eq_emod_of_nonneg this.1]; omega)
  have hcut := HCUT.out
  have hw := HW1.out
  go_enter Tryd.func69, Tryd.ntmps69
  go_wp2_with fail
  have hT := HT.out
  have hS := HS.out
  rw [HTJ.out] at hS
  have hA := PS.crossbuckref02_Sum.calls (j + 11) (some ad) c (l.take j) M w (by rw [HTJ.out]; exact hT) (by rw [HTJ.out]; exact HC2.out) hS
  rw [HTJ.out] at hA
  refine hA.mono ?_
  clear hA hT hS
  rintro e w1 ⟨rfl, hd⟩
  have B1 := Aside0.mk hd.below
  clear hd
  have y0 := pw_cell_below B1.out HY0.out
  have ead : ad.add (j + 1) = ⟨ad.block, ad.off + (j + 1), none⟩ := by unfold Addr.add; simp
  have y1 : World.cell? w1 ⟨ad.block, ad.off + (j + 1), none⟩ = some (.int .u8 (at_ l (j + 1))) := by rw [← ead]; exact pw_cell_below B1.out HY1.out
  clear ead
  have hw2 := HW2.out
  have info5 := info5
  by_cases c0 : at_ l j = M / 256
  · have hq0 : (at_ l j != IntKind.u16.wrap (M.tdiv 256) % 256) = false := by rw [HE1.out]; simpa using c0
    by_cases c1 : at_ l (j + 1) = M % 256
    · have hq1 : (at_ l (j + 1) != M.tmod 256 % 256) = false := by rw [HE2.out]; simpa using c1
      have HO := Aside0.mk (HIF.out.2 ⟨c0, c1⟩)
      clear c0 c1
      go_wp2_with ((with_reducible refine gate_builtin (b := .append) (xs := #[.tmp 34, .tmp 37]) rfl ?_); at_builtin; refine Kd.R_append_rows (Kd.int .u8) (w0 := w1) w1.heap.size rfl (.tmp 34) (.tmp 37) 44 5 (.int .u8 0) 1 rfl Tryd.underlying44 info5 rfl (by decide) (by decide) (.slice (some ⟨w1.heap.size, 0, none⟩) 0 0) [] (l.take j) (some ad) j c (fun _ => True) (fun _ => False) rfl rfl ?aO ?aR (fun _ _ h => h) (fun _ h => h.elim) (fun _ _ => trivial) ?aB ?aS ?aL ?_)
      case aO => exact R_empty w1
      case aR => exact Kd.C_alloc (Kd.C_below HT.out B1.out) _
      case aB => exact below_alloc (Below.refl _ _) _
      try case aS => simp
      case aL => simp; exact Nat.le_trans HJ9.out (by decide)
      intro v2 w2 ho hb hg hat
      have R2 : Aside0 (Kd.R (Kd.int .u8) 5 w2 w1.heap.size (fun _ => True) v2 (l.take j)) := ⟨by simpa using ho⟩
      have B2 := Aside0.mk (below_thenB B1.out hb B1.out.size)
      obtain ⟨A2, c2, hv, -, -⟩ := Kd.R_reads ho
      generalize (([] : List Int) ++ List.take j l).length = m at hv
      subst hv
      clear ho hb hg hat
      go_wp2_with fail
      go_ret2
      rw [HLL.out HO.out, HO.out]
      exact ⟨_, rfl, Kd.R_lower R2.out B1.out.size, B2.out⟩
    · have hq1 : (at_ l (j + 1) != M.tmod 256 % 256) = true := by rw [HE2.out]; simpa using c1
      have HO := Aside0.mk (show openOk l = false by
        cases h : openOk l with
        | false => rfl
        | true => exact absurd (HIF.out.1 h).2 c1)
      have HL := Aside0.mk (show openL l = [] by unfold openL; rw [HO.out]; rfl)
      clear c0 c1
      go_wp2_with fail
      go_ret2
      rw [HO.out, HL.out]
      exact ⟨_, rfl, Kd.R_nil _ _ _ _ _, B1.out⟩
  · have hq0 : (at_ l j != IntKind.u16.wrap (M.tdiv 256) % 256) = true := by rw [HE1.out]; simpa using c0
    have HO := Aside0.mk (show openOk l = false by
      cases h : openOk l with
      | false => rfl
      | true => exact absurd (HIF.out.1 h).1 c0)
    have HL := Aside0.mk (show openL l = [] by unfold openL; rw [HO.out]; rfl)
    clear c0
    go_wp2_with fail
    go_ret2
    rw [HO.out, HL.out]
    exact ⟨_, rfl, Kd.R_nil _ _ _ _ _, B1.out⟩
end Go.Proofs.YtfijlaahifeimaaDoor.PE
/- frame: Decode, of the reference. -/
namespace Go.Proofs.YtfijlaahifeimaaDoor.PE
open Go.RowKit Go.Extern.Stop Go.Stop Go.Extern Go.Proofs.YtfijlaahifeimaaDoorW.PrintWords Go.Proofs.YtfijlaahifeimaaDoorW.PrintLast Go.Proofs.YtfijlaahifeimaaDoorW.PrintMore
set_option linter.unusedVariables false
set_option linter.unusedSimpArgs false
set_option maxHeartbeats 16000000 in
set_option maxRecDepth 100000 in
theorem RDecode_calls (A : Option Addr) (c : Nat) (l : List Int) (w : World) (hC : Kd.C (Kd.int .u8) w A l.length l) (hc : l.length ≤ c) (hl : l.length ≤ 140737488351232) (hb : Bytes l) :
    Calls Tryd.prog 49 #[.slice A l.length c] w fun e w' => ∃ v, e = .returned (.tuple #[.agg #[.int .i64 (decC l), .int .i64 (decQ l), v], .int .i64 (decE l)]) ∧ (∃ A' c', v = .slice A' (decD l).length c' ∧ (decD l).length ≤ c' ∧ Kd.C (Kd.int .u8) w' A' (decD l).length (decD l)) ∧ Below w.heap.size w w' := by
  have B0 : Aside0 (Below w.heap.size w (w.alloc (.cells #[.int .i64 0, .int .i64 0, .slice none 0 0] 80))) := balloc ⟨Below.refl _ _⟩ _
  have HX0 := Aside0.mk (heap_new w (.cells #[.int .i64 0, .int .i64 0, .slice none 0 0] 80))
  have HC := Aside0.mk hC
  have HCC := Aside0.mk hc
  have HN := Aside0.mk hl
  have HBX := Aside0.mk (bytes_open hb)
  have HBL := Aside0.mk hb
  clear hC hc hb
  have HL := Aside0.mk (show openL l = openL l from rfl)
  cases hok : openOk l with
  | false =>
    have HE := Aside0.mk (show decE l = 3 by unfold decE; rw [if_pos hok])
    have HD := Aside0.mk (show decC l = 0 ∧ decQ l = 0 ∧ decD l = [] by unfold decC decQ decD; rw [HE.out]; exact ⟨rfl, rfl, rfl⟩)
    have HOK := Aside0.mk hok
    clear hok
    go_enter Tryd.func49, Tryd.ntmps49
    go_wp2_with fail
    have hA := ROpen_calls A c l _ (Kd.C_below HC.out B0.out) HCC.out hl HBL.out
    rw [HOK.out] at hA
    refine hA.mono ?_
    clear hA
    rintro e w2 ⟨v2, rfl, hR, hb⟩
    obtain ⟨A2, c2, rfl, -, -⟩ := Kd.R_reads hR
    generalize (openL l).length = n2
    have B2 := Aside0.mk (below_thenB B0.out hb B0.out.size)
    have HX2 := Aside0.mk (heap_below ⟨hb⟩ HX0.out)
    clear hb hR
    have HX3 := HX2.out
    have B3 := B2
    have k0 : World.cell? w2 ⟨w.heap.size, 0, none⟩ = some (.int .i64 0) := cell_of_heap HX3 0
    have k1 : World.cell? w2 ⟨w.heap.size, 1, none⟩ = some (.int .i64 0) := cell_of_heap HX3 1
    have k2 : World.cell? w2 ⟨w.heap.size, 2, none⟩ = some (.slice none 0 0) := cell_of_heap HX3 2
    have f0 := frozen_of_heap HX3 0
    have f1 := frozen_of_heap HX3 1
    have f2 := frozen_of_heap HX3 2
    have HX4 := Aside0.mk HX3
    clear HX3
    go_wp2_with fail
    have hO := set3_only w2 w.heap.size (.int .i64 0) (.int .i64 0) (.slice none 0 0)
    have hH := set3_heap (.int .i64 0) (.int .i64 0) (.slice none 0 0) HX4.out
    unfold set3 at hO hH
    generalize ((w2.setCell ⟨w.heap.size, 0, none⟩ (.int .i64 0)).setCell ⟨w.heap.size, 1, none⟩ (.int .i64 0)).setCell ⟨w.heap.size, 2, none⟩ (.slice none 0 0) = w9 at hO hH ⊢
    have r0 : World.cell? w9 ⟨w.heap.size, 0, none⟩ = some (.int .i64 0) := cell_of_heap hH 0
    have r1 : World.cell? w9 ⟨w.heap.size, 1, none⟩ = some (.int .i64 0) := cell_of_heap hH 1
    have r2 : World.cell? w9 ⟨w.heap.size, 2, none⟩ = some (.slice none 0 0) := cell_of_heap hH 2
    refine bodyPost_ret (v := .tuple #[.agg #[.int .i64 0, .int .i64 0, .slice none 0 0], .int .i64 3]) (by simp [results, Tryd.results49, go_sem, r0, r1, r2]) rfl ?_
    rw [HD.out.1, HD.out.2.1, HD.out.2.2, HE.out]
    exact ⟨_, rfl, ⟨none, 0, rfl, Nat.le_refl _, Kd.C_nil _ _⟩, (bonly B3 hO (Nat.le_refl _)).out⟩
  | true =>
    have HOK := Aside0.mk hok
    clear hok
    obtain ⟨x, hx⟩ : ∃ x, x = openL l := ⟨_, rfl⟩
    have HX := Aside0.mk hx
    have hbx := HBX.out
    rw [← hx] at hbx
    have hxl : x.length ≤ l.length := by rw [hx]; unfold openL; split <;> simp <;> omega
    have HXB := Aside0.mk hbx
    have b0 := bytes_at hbx 0
    have b1 := bytes_at hbx 1
    have b2 := bytes_at hbx 2
    clear hx hbx
    have pre : ∀ (Q : Ending → World → Prop), (∀ e w2, (∃ v2, e = .returned (.tuple #[v2, .bool true]) ∧ Kd.R (Kd.int .u8) 5 w2 (w.alloc (.cells #[.int .i64 0, .int .i64 0, .slice none 0 0] 80)).heap.size (fun _ => True) v2 x ∧ Below (w.alloc (.cells #[.int .i64 0, .int .i64 0, .slice none 0 0] 80)).heap.size (w.alloc (.cells #[.int .i64 0, .int .i64 0, .slice none 0 0] 80)) w2) → Q e w2) → Calls Tryd.prog 69 #[.slice A l.length c] (w.alloc (.cells #[.int .i64 0, .int .i64 0, .slice none 0 0] 80)) Q := by
      intro Q hQ
      have hA := ROpen_calls A c l _ (Kd.C_below HC.out B0.out) HCC.out hl HBL.out
      rw [HOK.out, ← HX.out] at hA
      exact hA.mono hQ
    have PRE := Aside0.mk pre
    clear pre
    by_cases hbad : formBad x
    · have HE := Aside0.mk (show decE l = 2 by unfold decE; rw [if_neg (by rw [HOK.out]; decide), ← HX.out, if_pos hbad])
      have HD := Aside0.mk (show decC l = 0 ∧ decQ l = 0 ∧ decD l = [] by unfold decC decQ decD; rw [HE.out]; exact ⟨rfl, rfl, rfl⟩)
      have k : decide ((x.length : Int) < 3) = true ∨ (decide ((x.length : Int) < 3) = false ∧ decide (15 < at_ x 0) = true) ∨ (decide ((x.length : Int) < 3) = false ∧ decide (15 < at_ x 0) = false ∧ decide (16 < at_ x 2) = true) ∨ (decide ((x.length : Int) < 3) = false ∧ decide (15 < at_ x 0) = false ∧ decide (16 < at_ x 2) = false ∧ ((x.length : Int) != 3 + at_ x 2) = true) := by
        unfold formBad at hbad
        by_cases h1 : (x.length : Int) < 3
        · exact .inl (decide_eq_true h1)
        · by_cases h2 : 15 < at_ x 0
          · exact .inr (.inl ⟨decide_eq_false h1, decide_eq_true h2⟩)
          · by_cases h3 : 16 < at_ x 2
            · exact .inr (.inr (.inl ⟨decide_eq_false h1, decide_eq_false h2, decide_eq_true h3⟩))
            · exact .inr (.inr (.inr ⟨decide_eq_false h1, decide_eq_false h2, decide_eq_false h3, by
                rcases hbad with h | h | h | h
                · omega
                · exact absurd h h2
                · exact absurd h h3
                · have h5 : ¬ ((x.length : Int) = 3 + at_ x 2) := by omega
                  simpa using h5⟩))
      have HW := Aside0.mk (show wrap64 (3 + at_ x 2) = 3 + at_ x 2 ∧ wrap64 (at_ x 2) = at_ x 2 by constructor <;> (unfold wrap64; omega))
      clear hbad b0 b1 b2
      rcases k with k0 | ⟨k0, k1⟩ | ⟨k0, k1, k2⟩ | ⟨k0, k1, k2, k3⟩
      · go_enter Tryd.func49, Tryd.ntmps49
        go_wp2_with fail
        refine PRE.out _ ?_
        rintro e w2 ⟨v2, rfl, hR, hb⟩
        have B2 := Aside0.mk (below_thenB B0.out hb B0.out.size)
        have HX2 := Aside0.mk (heap_below ⟨hb⟩ HX0.out)
        obtain ⟨A2, c2, rfl, -, -⟩ := Kd.R_reads hR
        clear hb hR
        have hw := HW.out.1
        have hw2 := HW.out.2
        have HX3 := HX2.out
        have B3 := B2
        have z0 : World.cell? w2 ⟨w.heap.size, 0, none⟩ = some (.int .i64 0) := cell_of_heap HX3 0
        have z1 : World.cell? w2 ⟨w.heap.size, 1, none⟩ = some (.int .i64 0) := cell_of_heap HX3 1
        have z2 : World.cell? w2 ⟨w.heap.size, 2, none⟩ = some (.slice none 0 0) := cell_of_heap HX3 2
        have f0 := frozen_of_heap HX3 0
        have f1 := frozen_of_heap HX3 1
        have f2 := frozen_of_heap HX3 2
        have HX4 := Aside0.mk HX3
        clear HX3
        go_wp2_with fail
        have hO := set3_only w2 w.heap.size (.int .i64 0) (.int .i64 0) (.slice none 0 0)
        have hH := set3_heap (.int .i64 0) (.int .i64 0) (.slice none 0 0) HX4.out
        unfold set3 at hO hH
        generalize ((w2.setCell ⟨w.heap.size, 0, none⟩ (.int .i64 0)).setCell ⟨w.heap.size, 1, none⟩ (.int .i64 0)).setCell ⟨w.heap.size, 2, none⟩ (.slice none 0 0) = w9 at hO hH ⊢
        have r0 : World.cell? w9 ⟨w.heap.size, 0, none⟩ = some (.int .i64 0) := cell_of_heap hH 0
        have r1 : World.cell? w9 ⟨w.heap.size, 1, none⟩ = some (.int .i64 0) := cell_of_heap hH 1
        have r2 : World.cell? w9 ⟨w.heap.size, 2, none⟩ = some (.slice none 0 0) := cell_of_heap hH 2
        refine bodyPost_ret (v := .tuple #[.agg #[.int .i64 0, .int .i64 0, .slice none 0 0], .int .i64 2]) (by simp [results, Tryd.results49, go_sem, r0, r1, r2]) rfl ?_
        rw [HD.out.1, HD.out.2.1, HD.out.2.2, HE.out]
        exact ⟨_, rfl, ⟨none, 0, rfl, Nat.le_refl _, Kd.C_nil _ _⟩, (bonly B3 hO (Nat.le_refl _)).out⟩
      · go_enter Tryd.func49, Tryd.ntmps49
        go_wp2_with fail
        refine PRE.out _ ?_
        rintro e w2 ⟨v2, rfl, hR, hb⟩
        have B2 := Aside0.mk (below_thenB B0.out hb B0.out.size)
        have HX2 := Aside0.mk (heap_below ⟨hb⟩ HX0.out)
        have hlen : 2 < x.length := by have := of_decide_eq_false k0; omega
        obtain ⟨g2, c2, rfl, hc2, -, -, hcells⟩ := R_at hR (by omega)
        have y0 := hcells 0 (by omega)
        have y2 := hcells 2 hlen
        clear hcells
        have hl0 : 0 < x.length := by omega
        have hl2 : (2 : Int) < (x.length : Int) := by omega
        clear hb hR
        have hw := HW.out.1
        have hw2 := HW.out.2
        have HX3 := HX2.out
        have B3 := B2
        have z0 : World.cell? w2 ⟨w.heap.size, 0, none⟩ = some (.int .i64 0) := cell_of_heap HX3 0
        have z1 : World.cell? w2 ⟨w.heap.size, 1, none⟩ = some (.int .i64 0) := cell_of_heap HX3 1
        have z2 : World.cell? w2 ⟨w.heap.size, 2, none⟩ = some (.slice none 0 0) := cell_of_heap HX3 2
        have f0 := frozen_of_heap HX3 0
        have f1 := frozen_of_heap HX3 1
        have f2 := frozen_of_heap HX3 2
        have HX4 := Aside0.mk HX3
        clear HX3
        go_wp2_with fail
        have hO := set3_only w2 w.heap.size (.int .i64 0) (.int .i64 0) (.slice none 0 0)
        have hH := set3_heap (.int .i64 0) (.int .i64 0) (.slice none 0 0) HX4.out
        unfold set3 at hO hH
        generalize ((w2.setCell ⟨w.heap.size, 0, none⟩ (.int .i64 0)).setCell ⟨w.heap.size, 1, none⟩ (.int .i64 0)).setCell ⟨w.heap.size, 2, none⟩ (.slice none 0 0) = w9 at hO hH ⊢
        have r0 : World.cell? w9 ⟨w.heap.size, 0, none⟩ = some (.int .i64 0) := cell_of_heap hH 0
        have r1 : World.cell? w9 ⟨w.heap.size, 1, none⟩ = some (.int .i64 0) := cell_of_heap hH 1
        have r2 : World.cell? w9 ⟨w.heap.size, 2, none⟩ = some (.slice none 0 0) := cell_of_heap hH 2
        refine bodyPost_ret (v := .tuple #[.agg #[.int .i64 0, .int .i64 0, .slice none 0 0], .int .i64 2]) (by simp [results, Tryd.results49, go_sem, r0, r1, r2]) rfl ?_
        rw [HD.out.1, HD.out.2.1, HD.out.2.2, HE.out]
        exact ⟨_, rfl, ⟨none, 0, rfl, Nat.le_refl _, Kd.C_nil _ _⟩, (bonly B3 hO (Nat.le_refl _)).out⟩
      · go_enter Tryd.func49, Tryd.ntmps49
        go_wp2_with fail
        refine PRE.out _ ?_
        rintro e w2 ⟨v2, rfl, hR, hb⟩
        have B2 := Aside0.mk (below_thenB B0.out hb B0.out.size)
        have HX2 := Aside0.mk (heap_below ⟨hb⟩ HX0.out)
        have hlen : 2 < x.length := by have := of_decide_eq_false k0; omega
        obtain ⟨g2, c2, rfl, hc2, -, -, hcells⟩ := R_at hR (by omega)
        have y0 := hcells 0 (by omega)
        have y2 := hcells 2 hlen
        clear hcells
        have hl0 : 0 < x.length := by omega
        have hl2 : (2 : Int) < (x.length : Int) := by omega
        clear hb hR
        have hw := HW.out.1
        have hw2 := HW.out.2
        have HX3 := HX2.out
        have B3 := B2
        have z0 : World.cell? w2 ⟨w.heap.size, 0, none⟩ = some (.int .i64 0) := cell_of_heap HX3 0
        have z1 : World.cell? w2 ⟨w.heap.size, 1, none⟩ = some (.int .i64 0) := cell_of_heap HX3 1
        have z2 : World.cell? w2 ⟨w.heap.size, 2, none⟩ = some (.slice none 0 0) := cell_of_heap HX3 2
        have f0 := frozen_of_heap HX3 0
        have f1 := frozen_of_heap HX3 1
        have f2 := frozen_of_heap HX3 2
        have HX4 := Aside0.mk HX3
        clear HX3
        go_wp2_with fail
        have hO := set3_only w2 w.heap.size (.int .i64 0) (.int .i64 0) (.slice none 0 0)
        have hH := set3_heap (.int .i64 0) (.int .i64 0) (.slice none 0 0) HX4.out
        unfold set3 at hO hH
        generalize ((w2.setCell ⟨w.heap.size, 0, none⟩ (.int .i64 0)).setCell ⟨w.heap.size, 1, none⟩ (.int .i64 0)).setCell ⟨w.heap.size, 2, none⟩ (.slice none 0 0) = w9 at hO hH ⊢
        have r0 : World.cell? w9 ⟨w.heap.size, 0, none⟩ = some (.int .i64 0) := cell_of_heap hH 0
        have r1 : World.cell? w9 ⟨w.heap.size, 1, none⟩ = some (.int .i64 0) := cell_of_heap hH 1
        have r2 : World.cell? w9 ⟨w.heap.size, 2, none⟩ = some (.slice none 0 0) := cell_of_heap hH 2
        refine bodyPost_ret (v := .tuple #[.agg #[.int .i64 0, .int .i64 0, .slice none 0 0], .int .i64 2]) (by simp [results, Tryd.results49, go_sem, r0, r1, r2]) rfl ?_
        rw [HD.out.1, HD.out.2.1, HD.out.2.2, HE.out]
        exact ⟨_, rfl, ⟨none, 0, rfl, Nat.le_refl _, Kd.C_nil _ _⟩, (bonly B3 hO (Nat.le_refl _)).out⟩
      · go_enter Tryd.func49, Tryd.ntmps49
        go_wp2_with fail
        refine PRE.out _ ?_
        rintro e w2 ⟨v2, rfl, hR, hb⟩
        have B2 := Aside0.mk (below_thenB B0.out hb B0.out.size)
        have HX2 := Aside0.mk (heap_below ⟨hb⟩ HX0.out)
        have hlen : 2 < x.length := by have := of_decide_eq_false k0; omega
        obtain ⟨g2, c2, rfl, hc2, -, -, hcells⟩ := R_at hR (by omega)
        have y0 := hcells 0 (by omega)
        have y2 := hcells 2 hlen
        clear hcells
        have hl0 : 0 < x.length := by omega
        have hl2 : (2 : Int) < (x.length : Int) := by omega
        clear hb hR
        have hw := HW.out.1
        have hw2 := HW.out.2
        have HX3 := HX2.out
        have B3 := B2
        have z0 : World.cell? w2 ⟨w.heap.size, 0, none⟩ = some (.int .i64 0) := cell_of_heap HX3 0
        have z1 : World.cell? w2 ⟨w.heap.size, 1, none⟩ = some (.int .i64 0) := cell_of_heap HX3 1
        have z2 : World.cell? w2 ⟨w.heap.size, 2, none⟩ = some (.slice none 0 0) := cell_of_heap HX3 2
        have f0 := frozen_of_heap HX3 0
        have f1 := frozen_of_heap HX3 1
        have f2 := frozen_of_heap HX3 2
        have HX4 := Aside0.mk HX3
        clear HX3
        go_wp2_with fail
        have hO := set3_only w2 w.heap.size (.int .i64 0) (.int .i64 0) (.slice none 0 0)
        have hH := set3_heap (.int .i64 0) (.int .i64 0) (.slice none 0 0) HX4.out
        unfold set3 at hO hH
        generalize ((w2.setCell ⟨w.heap.size, 0, none⟩ (.int .i64 0)).setCell ⟨w.heap.size, 1, none⟩ (.int .i64 0)).setCell ⟨w.heap.size, 2, none⟩ (.slice none 0 0) = w9 at hO hH ⊢
        have r0 : World.cell? w9 ⟨w.heap.size, 0, none⟩ = some (.int .i64 0) := cell_of_heap hH 0
        have r1 : World.cell? w9 ⟨w.heap.size, 1, none⟩ = some (.int .i64 0) := cell_of_heap hH 1
        have r2 : World.cell? w9 ⟨w.heap.size, 2, none⟩ = some (.slice none 0 0) := cell_of_heap hH 2
        refine bodyPost_ret (v := .tuple #[.agg #[.int .i64 0, .int .i64 0, .slice none 0 0], .int .i64 2]) (by simp [results, Tryd.results49, go_sem, r0, r1, r2]) rfl ?_
        rw [HD.out.1, HD.out.2.1, HD.out.2.2, HE.out]
        exact ⟨_, rfl, ⟨none, 0, rfl, Nat.le_refl _, Kd.C_nil _ _⟩, (bonly B3 hO (Nat.le_refl _)).out⟩
    · have hg : 3 ≤ x.length ∧ at_ x 0 ≤ 15 ∧ at_ x 2 ≤ 16 ∧ (x.length : Int) - 3 = at_ x 2 := by unfold formBad at hbad; omega
      have HE := Aside0.mk (show decE l = 0 by unfold decE; rw [if_neg (by rw [HOK.out]; decide), ← HX.out, if_neg hbad])
      have HD := Aside0.mk (show decC l = at_ x 0 ∧ decQ l = at_ x 1 ∧ decD l = x.drop 3 by unfold decC decQ decD; rw [HE.out, ← HX.out]; exact ⟨rfl, rfl, rfl⟩)
      have k0 : decide ((x.length : Int) < 3) = false := decide_eq_false (by omega)
      have k1 : decide (15 < at_ x 0) = false := decide_eq_false (by omega)
      have k2 : decide (16 < at_ x 2) = false := decide_eq_false (by omega)
      have k3 : ((x.length : Int) != 3 + at_ x 2) = false := bne_eq_false_iff_eq.2 (by omega)
      have HW := Aside0.mk (show wrap64 (3 + at_ x 2) = 3 + at_ x 2 ∧ wrap64 (at_ x 2) = at_ x 2 by constructor <;> (unfold wrap64; omega))
      have HV := Aside0.mk (show IntKind.i64.wrap (at_ x 0) = at_ x 0 ∧ IntKind.i64.wrap (at_ x 1) = at_ x 1 by constructor <;> (rw [i64_w]; unfold wrap64; omega))
      have h3 : 3 ≤ x.length := hg.1
      clear hbad b0 b1 b2 hg
      go_enter Tryd.func49, Tryd.ntmps49
      go_wp2_with fail
      refine PRE.out _ ?_
      rintro e w2 ⟨v2, rfl, hR, hb⟩
      have B2 := Aside0.mk (below_thenB B0.out hb B0.out.size)
      have HX2 := Aside0.mk (heap_below ⟨hb⟩ HX0.out)
      have R2 := Aside0.mk (R_from hR)
      obtain ⟨g2, c2, rfl, hc2, hg2, hg2b, hcells⟩ := R_at hR (by omega)
      have hne : w.heap.size ≠ g2 := by have h1 := hg2; simp at h1; omega
      have y0 := hcells 0 (by omega)
      have y1 := hcells 1 (by omega)
      have y2 := hcells 2 (by omega)
      have hl0 : 0 < x.length := by omega
      have hl1 : (1 : Int) < (x.length : Int) := by omega
      have hl2 : (2 : Int) < (x.length : Int) := by omega
      obtain ⟨i0, hi0, _, hsz, _⟩ := info_parts info5
      obtain ⟨A', hcut, hA, hC3⟩ := print_drop_of (P := Tryd.prog) (Value.int .u8) 0 44 5 .i64 Tryd.underlying44 hi0 hsz (some ⟨g2, 0, none⟩) c2 x 3 (by omega) (by omega) hc2
      have HA := Aside0.mk hA
      have HC3 := Aside0.mk hC3
      have HCUT := Aside0.mk hcut
      clear hb hR hcells hg2 hg2b hi0 hsz hA hC3 hcut hc2
      have hw := HW.out.1
      have hw2 := HW.out.2
      go_upto_region 6 with fail
      have hcut := HCUT.out
      have z0 : World.cell? w2 ⟨w.heap.size, 0, none⟩ = some (.int .i64 0) := cell_of_heap HX2.out 0
      have z1 : World.cell? w2 ⟨w.heap.size, 1, none⟩ = some (.int .i64 0) := cell_of_heap HX2.out 1
      have z2 : World.cell? w2 ⟨w.heap.size, 2, none⟩ = some (.slice none 0 0) := cell_of_heap HX2.out 2
      have f0 := frozen_of_heap HX2.out 0
      have f1 := frozen_of_heap HX2.out 1
      have f2 := frozen_of_heap HX2.out 2
      refine wp_region_held_drew (S := (fun W => W.cell? ⟨g2, 0, none⟩ = some (.int .u8 (at_ x 0)) ∧ W.cell? ⟨g2, 1, none⟩ = some (.int .u8 (at_ x 1)))) (by kernel_rfl) ?_ (fun hHeld => ?_)
      · exact ⟨y0, y1⟩
      refine wpAnyH_take (i := 0) (oi := { dst := some 40, op := Go.Op.move (Go.Operand.tmp 4), type := 44, pos := "ref.go:27", after := #[], guard := none }) (v := ?vz0) rfl (by kernel_rfl) (by kernel_rfl) (by kernel_rfl) (fun _ _ _ h => h) (Or.inl ⟨by rfl, ?yz0⟩) (by assumption) ?rz0
      case yz0 => ((intro w hSw; (try dsimp only at hSw); go_simp) <;> with_reducible rfl)
      try simp only [put_]
      refine wpAnyH_take (i := 1) (oi := { dst := some 41, op := Go.Op.indexAddr 44 (Go.Operand.tmp 40) (Go.Operand.const (Go.Value.int Go.IntKind.i64 0)), type := 0, pos := "ref.go:27", after := #[{ on := 0, ground := Go.Ground.data }], guard := none }) (v := ?vz1) rfl (by kernel_rfl) (by kernel_rfl) (by kernel_rfl) (fun _ _ _ h => h) (Or.inl ⟨by rfl, ?yz1⟩) (by assumption) ?rz1
      case yz1 => ((intro w hSw; (try dsimp only at hSw); go_simp) <;> with_reducible rfl)
      try simp only [put_]
      refine wpAnyH_take (i := 2) (oi := { dst := some 42, op := Go.Op.load 5 (Go.Operand.tmp 41), type := 5, pos := "ref.go:27", after := #[{ on := 1, ground := Go.Ground.data }], guard := none }) (v := ?vz2) rfl (by kernel_rfl) (by kernel_rfl) (by kernel_rfl) (fun _ _ _ h => h) (Or.inl ⟨by rfl, ?yz2⟩) (by assumption) ?rz2
      case yz2 => ((intro w hSw; (try dsimp only at hSw); go_simp) <;> with_reducible rfl)
      try simp only [put_]
      refine wpAnyH_take (i := 3) (oi := { dst := some 43, op := Go.Op.convert 5 3 (Go.Operand.tmp 42), type := 3, pos := "ref.go:27", after := #[{ on := 2, ground := Go.Ground.data }], guard := none }) (v := ?vz3) rfl (by kernel_rfl) (by kernel_rfl) (by kernel_rfl) (fun _ _ _ h => h) (Or.inl ⟨by rfl, ?yz3⟩) (by assumption) ?rz3
      case yz3 => ((intro w hSw; (try dsimp only at hSw); go_simp) <;> with_reducible rfl)
      try simp only [put_]
      refine wpAnyH_take (i := 4) (oi := { dst := some 44, op := Go.Op.move (Go.Operand.tmp 4), type := 44, pos := "ref.go:27", after := #[], guard := none }) (v := ?vz4) rfl (by kernel_rfl) (by kernel_rfl) (by kernel_rfl) (fun _ _ _ h => h) (Or.inl ⟨by rfl, ?yz4⟩) (by assumption) ?rz4
      case yz4 => ((intro w hSw; (try dsimp only at hSw); go_simp) <;> with_reducible rfl)
      try simp only [put_]
      refine wpAnyH_take (i := 5) (oi := { dst := some 45, op := Go.Op.indexAddr 44 (Go.Operand.tmp 44) (Go.Operand.const (Go.Value.int Go.IntKind.i64 1)), type := 0, pos := "ref.go:27", after := #[{ on := 4, ground := Go.Ground.data }], guard := none }) (v := ?vz5) rfl (by kernel_rfl) (by kernel_rfl) (by kernel_rfl) (fun _ _ _ h => h) (Or.inl ⟨by rfl, ?yz5⟩) (by assumption) ?rz5
      case yz5 => ((intro w hSw; (try dsimp only at hSw); go_simp) <;> with_reducible rfl)
      try simp only [put_]
      refine wpAnyH_take (i := 6) (oi := { dst := some 46, op := Go.Op.load 5 (Go.Operand.tmp 45), type := 5, pos := "ref.go:27", after := #[{ on := 5, ground := Go.Ground.data }], guard := none }) (v := ?vz6) rfl (by kernel_rfl) (by kernel_rfl) (by kernel_rfl) (fun _ _ _ h => h) (Or.inl ⟨by rfl, ?yz6⟩) (by assumption) ?rz6
      case yz6 => ((intro w hSw; (try dsimp only at hSw); go_simp) <;> with_reducible rfl)
      try simp only [put_]
      refine wpAnyH_take (i := 7) (oi := { dst := some 47, op := Go.Op.convert 5 3 (Go.Operand.tmp 46), type := 3, pos := "ref.go:27", after := #[{ on := 6, ground := Go.Ground.data }], guard := none }) (v := ?vz7) rfl (by kernel_rfl) (by kernel_rfl) (by kernel_rfl) (fun _ _ _ h => h) (Or.inl ⟨by rfl, ?yz7⟩) (by assumption) ?rz7
      case yz7 => ((intro w hSw; (try dsimp only at hSw); go_simp) <;> with_reducible rfl)
      try simp only [put_]
      refine wpAnyH_take (i := 8) (oi := { dst := some 48, op := Go.Op.move (Go.Operand.tmp 4), type := 44, pos := "ref.go:27", after := #[], guard := none }) (v := ?vz8) rfl (by kernel_rfl) (by kernel_rfl) (by kernel_rfl) (fun _ _ _ h => h) (Or.inl ⟨by rfl, ?yz8⟩) (by assumption) ?rz8
      case yz8 => ((intro w hSw; (try dsimp only at hSw); go_simp) <;> with_reducible rfl)
      try simp only [put_]
      refine wpAnyH_take (i := 9) (oi := { dst := some 49, op := Go.Op.slice 44 (Go.Operand.tmp 48) (some (Go.Operand.const (Go.Value.int Go.IntKind.i64 3))) none none, type := 44, pos := "ref.go:27", after := #[{ on := 8, ground := Go.Ground.data }], guard := none }) (v := ?vz9) rfl (by kernel_rfl) (by kernel_rfl) (by kernel_rfl) (fun _ _ _ h => h) (Or.inl ⟨by rfl, ?yz9⟩) (by assumption) ?rz9
      case yz9 => ((intro w hSw; (try dsimp only at hSw); go_simp) <;> with_reducible rfl)
      try simp only [put_]
      refine wpAnyH_take (i := 10) (oi := { dst := some 50, op := Go.Op.build 80 #[(0, Go.Operand.tmp 43), (1, Go.Operand.tmp 47), (2, Go.Operand.tmp 49)], type := 80, pos := "ref.go:27", after := #[{ on := 3, ground := Go.Ground.data }, { on := 7, ground := Go.Ground.data }, { on := 9, ground := Go.Ground.data }], guard := none }) (v := ?vz10) rfl (by kernel_rfl) (by kernel_rfl) (by kernel_rfl) (fun _ _ _ h => h) (Or.inl ⟨by rfl, ?yz10⟩) (by assumption) ?rz10
      case yz10 => ((intro w hSw; (try dsimp only at hSw); go_simp) <;> with_reducible rfl)
      try simp only [put_]
      refine wpAnyH_ready (rs := [11]) (by kernel_rfl) (by simp) ?_
      refine AllReadyH.cons (o := { dst := none, op := Go.Op.store 80 (Go.Operand.tmp 2) (Go.Operand.tmp 50), type := 0, pos := "ref.go:27", after := #[{ on := 10, ground := Go.Ground.data }, { on := 0, ground := Go.Ground.phase }, { on := 1, ground := Go.Ground.phase }, { on := 2, ground := Go.Ground.phase }, { on := 3, ground := Go.Ground.phase }, { on := 4, ground := Go.Ground.phase }, { on := 5, ground := Go.Ground.phase }, { on := 6, ground := Go.Ground.phase }, { on := 7, ground := Go.Ground.phase }, { on := 8, ground := Go.Ground.phase }, { on := 9, ground := Go.Ground.phase }, { on := 10, ground := Go.Ground.phase }], guard := none }) rfl (fun K hK => ?kz11) AllReadyH.nil
      have z0d : World.cell? w2.drew ⟨w.heap.size, 0, none⟩ = some (.int .i64 0) := z0
      have z1d : World.cell? w2.drew ⟨w.heap.size, 1, none⟩ = some (.int .i64 0) := z1
      have z2d : World.cell? w2.drew ⟨w.heap.size, 2, none⟩ = some (.slice none 0 0) := z2
      have f0d : World.frozen? w2.drew ⟨w.heap.size, 0, none⟩ = false := f0
      have f1d : World.frozen? w2.drew ⟨w.heap.size, 1, none⟩ = false := f1
      have f2d : World.frozen? w2.drew ⟨w.heap.size, 2, none⟩ = false := f2
      go_simp
      refine hK.out _ _ ?_ (fun hHeld => ?_)
      · exact ⟨set3_far _ _ _ hne y0, set3_far _ _ _ hne y1⟩
      clear hK K
      try simp only [put_]
      refine wpAnyH_take (i := 12) (oi := { dst := some 3, op := Go.Op.assign (Go.Operand.const (Go.Value.int Go.IntKind.i64 0)), type := 39, pos := "ref.go:27", after := #[{ on := 11, ground := Go.Ground.chain }, { on := 0, ground := Go.Ground.phase }, { on := 1, ground := Go.Ground.phase }, { on := 2, ground := Go.Ground.phase }, { on := 3, ground := Go.Ground.phase }, { on := 4, ground := Go.Ground.phase }, { on := 5, ground := Go.Ground.phase }, { on := 6, ground := Go.Ground.phase }, { on := 7, ground := Go.Ground.phase }, { on := 8, ground := Go.Ground.phase }, { on := 9, ground := Go.Ground.phase }, { on := 10, ground := Go.Ground.phase }, { on := 11, ground := Go.Ground.phase }], guard := none }) (v := ?vz12) rfl (by kernel_rfl) (by kernel_rfl) (by kernel_rfl) (fun _ _ _ h => h) (Or.inl ⟨by rfl, ?yz12⟩) (by assumption) ?rz12
      case yz12 => ((intro w hSw; (try dsimp only at hSw); go_simp) <;> with_reducible rfl)
      try simp only [put_]
      refine wpAnyH_done (by kernel_rfl) ?_ _
      go_wp2_with fail
      rw [HV.out.1, HV.out.2]
      have hO := (set3_only w2 w.heap.size (.int .i64 (at_ x 0)) (.int .i64 (at_ x 1)) (.slice A' (x.length - 3) (c2 - 3))).trans (drew_only _ _)
      have hH : (set3 w2 w.heap.size (.int .i64 (at_ x 0)) (.int .i64 (at_ x 1)) (.slice A' (x.length - 3) (c2 - 3))).drew.heap[w.heap.size]? = _ := set3_heap (.int .i64 (at_ x 0)) (.int .i64 (at_ x 1)) (.slice A' (x.length - 3) (c2 - 3)) HX2.out
      unfold set3 at hO hH
      generalize (((w2.setCell ⟨w.heap.size, 0, none⟩ (.int .i64 (at_ x 0))).setCell ⟨w.heap.size, 1, none⟩ (.int .i64 (at_ x 1))).setCell ⟨w.heap.size, 2, none⟩ (.slice A' (x.length - 3) (c2 - 3))).drew = w9 at hO hH ⊢
      have r0 : World.cell? w9 ⟨w.heap.size, 0, none⟩ = some (.int .i64 (at_ x 0)) := cell_of_heap hH 0
      have r1 : World.cell? w9 ⟨w.heap.size, 1, none⟩ = some (.int .i64 (at_ x 1)) := cell_of_heap hH 1
      have r2 : World.cell? w9 ⟨w.heap.size, 2, none⟩ = some (.slice A' (x.length - 3) (c2 - 3)) := cell_of_heap hH 2
      have R9 := R_only R2.out hO (fun k hk => by have h1 := hk; simp at h1; omega)
      obtain ⟨_, _, C9⟩ := Kd.R_reads' R9
      have CD : Kd.C (Kd.int .u8) w9 A' (x.drop 3).length (x.drop 3) := Kd.C_of_reads (h1 := fun _ => rfl) (HA.out w9 (Kd.reads_of_C C9))
      have hdl : (x.drop 3).length = x.length - 3 := by rw [List.length_drop]
      refine bodyPost_ret (v := .tuple #[.agg #[.int .i64 (at_ x 0), .int .i64 (at_ x 1), .slice A' (x.length - 3) (c2 - 3)], .int .i64 0]) (by simp [results, Tryd.results49, go_sem, r0, r1, r2]) rfl ?_
      rw [HD.out.1, HD.out.2.1, HD.out.2.2, HE.out]
      exact ⟨_, rfl, ⟨A', c2 - 3, by rw [hdl], by have := HC3.out; simpa using this, CD⟩, (bonly B2 hO (Nat.le_refl _)).out⟩
end Go.Proofs.YtfijlaahifeimaaDoor.PE
