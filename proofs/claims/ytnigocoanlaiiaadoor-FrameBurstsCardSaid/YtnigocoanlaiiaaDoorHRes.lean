/- frame: bytes bear their sum if and only if the last two are the sum of the rest. -/
import Derived.Test.YtnigocoanlaiiaaDoorHShort
namespace Go.Proofs.YtnigocoanlaiiaaDoor.PE
open Go.RowKit Go.Proofs.YtnigocoanlaiiaaDoorW.PrintWords
set_option linter.unusedVariables false
set_option linter.unusedSimpArgs false
theorem low_all : ∀ z : Fin 256, Tn 8 (BitVec.ofNat 16 z.val) = BitVec.ofNat 16 z.val <<< 8 := by decide +kernel
theorem low_byte (b : Int) (h : 0 ≤ b ∧ b ≤ 255) : Tn 8 (BitVec.ofInt 16 b) = BitVec.ofInt 16 b <<< 8 := by
  obtain ⟨n, rfl⟩ := Int.eq_ofNat_of_zero_le h.1
  have e : BitVec.ofInt 16 ((n : Nat) : Int) = BitVec.ofNat 16 n := BitVec.ofInt_natCast _ _
  rw [e]
  exact low_all ⟨n, by omega⟩
theorem xor_nat (a b : Nat) (hb : b < 256) : (2 ^ 8 * a) ^^^ b = 2 ^ 8 * a + b := by
  apply Nat.eq_of_testBit_eq
  intro i
  rw [Nat.testBit_xor, Nat.testBit_two_pow_mul, Nat.testBit_two_pow_mul_add a (show b < 2 ^ 8 by omega)]
  by_cases h : i < 8
  · rw [if_pos h, decide_eq_false (by omega)]; simp
  · rw [if_neg h, decide_eq_true (by omega)]
    have hb2 : b.testBit i = false := Nat.testBit_lt_two_pow (Nat.lt_of_lt_of_le (show b < 2 ^ 8 by omega) (Nat.pow_le_pow_right (by omega) (by omega)))
    rw [hb2]; simp
theorem pair_num (a b : Int) (ha : 0 ≤ a ∧ a ≤ 255) (hb : 0 ≤ b ∧ b ≤ 255) : num ((BitVec.ofInt 16 a <<< 8) ^^^ BitVec.ofInt 16 b) = a * 256 + b := by
  obtain ⟨m, rfl⟩ := Int.eq_ofNat_of_zero_le ha.1
  obtain ⟨n, rfl⟩ := Int.eq_ofNat_of_zero_le hb.1
  rw [BitVec.ofInt_natCast, BitVec.ofInt_natCast]
  unfold num
  rw [BitVec.toNat_xor, BitVec.toNat_shiftLeft, BitVec.toNat_ofNat, BitVec.toNat_ofNat, Nat.shiftLeft_eq, Nat.mod_eq_of_lt (show m < 2 ^ 16 by omega), Nat.mod_eq_of_lt (show n < 2 ^ 16 by omega), Nat.mod_eq_of_lt (show m * 2 ^ 8 < 2 ^ 16 by omega), Nat.mul_comm, xor_nat m n (by omega)]
  omega
theorem num_inj {s t : BitVec 16} (h : num s = num t) : s = t := by
  apply BitVec.eq_of_toNat_eq
  unfold num at h
  omega
theorem num_zero (s : BitVec 16) : num s = 0 ↔ s = 0#16 := by
  constructor
  · intro h; exact num_inj (by rw [h]; rfl)
  · rintro rfl; rfl
theorem residue (S : BitVec 16) (a b : Int) (ha : 0 ≤ a ∧ a ≤ 255) (hb : 0 ≤ b ∧ b ≤ 255) : num (B (B S a) b) = 0 ↔ num S = a * 256 + b := by
  rw [num_zero]
  have h1 : B (B S a) b = 0#16 ↔ S = (BitVec.ofInt 16 a <<< 8) ^^^ BitVec.ofInt 16 b := by
    constructor
    · intro h
      unfold B at h
      have h2 := BitVec.xor_eq_zero_iff.1 (Tn_ker 8 _ h)
      rw [← low_byte b hb] at h2
      have h3 := Tn_inj 8 _ _ h2
      rw [← h3, BitVec.xor_comm S, ← BitVec.xor_assoc, BitVec.xor_self, BitVec.zero_xor]
    · intro h
      unfold B
      rw [h, BitVec.xor_comm (BitVec.ofInt 16 a <<< 8), BitVec.xor_assoc, BitVec.xor_self, BitVec.xor_zero, low_byte b hb, BitVec.xor_self]
      exact Tn_zero 8
  rw [h1]
  constructor
  · intro h; rw [h, pair_num a b ha hb]
  · intro h; exact num_inj (by rw [h, pair_num a b ha hb])
theorem sumL_two (l : List Int) (a b : Int) : sumL (l ++ [a, b]) = B (B (sumL l) a) b := by
  unfold sumL crcL
  rw [List.foldl_append]; rfl
theorem open_seal (l : List Int) : openOk (sealL l) = true ∧ openL (sealL l) = l := by
  have hn := num_lt (sumL l)
  have h0 : num (sumL (sealL l)) = 0 := by
    unfold sealL
    rw [sumL_two]
    exact (residue _ _ _ (by omega) (by omega)).2 (by omega)
  have hok : openOk (sealL l) = true := by
    unfold openOk
    rw [decide_eq_true h0, decide_eq_true (by rw [sealL_len]; omega)]; rfl
  refine ⟨hok, ?_⟩
  unfold openL
  rw [hok, if_pos rfl, sealL_len]
  unfold sealL
  rw [Nat.add_sub_cancel, List.take_left']
  rfl
theorem seal_open {l : List Int} (hb : Bytes l) (h : openOk l = true) : l = sealL (openL l) := by
  have h2 : 2 ≤ l.length := by
    unfold openOk at h
    exact of_decide_eq_true (Bool.and_eq_true_iff.1 h).1
  have h0 : num (sumL l) = 0 := by
    unfold openOk at h
    exact of_decide_eq_true (Bool.and_eq_true_iff.1 h).2
  have hL : openL l = l.take (l.length - 2) := by unfold openL; rw [h]; rfl
  obtain ⟨a, b, hd⟩ : ∃ a b, l.drop (l.length - 2) = [a, b] := by
    have hlen : (l.drop (l.length - 2)).length = 2 := by rw [List.length_drop]; omega
    match hm : l.drop (l.length - 2) with
    | [] => rw [hm] at hlen; simp at hlen
    | [x] => rw [hm] at hlen; simp at hlen
    | [x, y] => exact ⟨x, y, rfl⟩
    | x :: y :: z :: t => rw [hm] at hlen; simp at hlen
  have hl : l = l.take (l.length - 2) ++ [a, b] := by rw [← hd, List.take_append_drop]
  have ha := hb a (by rw [hl]; simp)
  have hb2 := hb b (by rw [hl]; simp)
  rw [hL]
  generalize l.take (l.length - 2) = m at hl
  rw [hl] at h0 ⊢
  rw [sumL_two] at h0
  have hr := (residue _ a b ha hb2).1 h0
  unfold sealL
  rw [hr]
  have e1 : (a * 256 + b) / 256 = a := by omega
  have e2 : (a * 256 + b) % 256 = b := by omega
  rw [e1, e2]
/-- What was encoded is decoded as it was. -/
theorem dec_of_enc {ch sq : Int} {xs : List Int} (ha : ¬ argF ch sq xs.length) : decE (encL ch sq xs) = 0 := by
  have h := open_seal ([ch, sq, (xs.length : Int)] ++ xs)
  have hL : openL (encL ch sq xs) = [ch, sq, (xs.length : Int)] ++ xs := h.2
  have hok : openOk (encL ch sq xs) = true := h.1
  unfold decE
  rw [if_neg (by rw [hok]; decide), if_neg]
  rw [hL]
  unfold argF at ha
  unfold formBad
  have e0 : at_ ([ch, sq, (xs.length : Int)] ++ xs) 0 = ch := rfl
  have e2 : at_ ([ch, sq, (xs.length : Int)] ++ xs) 2 = (xs.length : Int) := rfl
  rw [e0, e2]
  simp
  omega
/-- What is decoded has one form. -/
theorem enc_of_dec {l : List Int} (hb : Bytes l) (h : decE l = 0) : ¬ argF (decC l) (decQ l) (decD l).length ∧ encL (decC l) (decQ l) (decD l) = l := by
  have hC : decC l = at_ (openL l) 0 := by unfold decC; rw [if_pos h]
  have hQ : decQ l = at_ (openL l) 1 := by unfold decQ; rw [if_pos h]
  have hD : decD l = (openL l).drop 3 := by unfold decD; rw [if_pos h]
  have hok : openOk l = true := by
    cases hk : openOk l with
    | true => rfl
    | false => unfold decE at h; rw [if_pos hk] at h; exact absurd h (by decide)
  have hf : ¬ formBad (openL l) := fun hf => by
    unfold decE at h
    rw [if_neg (by rw [hok]; decide), if_pos hf] at h; exact absurd h (by decide)
  have hs := seal_open hb hok
  have hbo := bytes_open hb
  rw [hC, hQ, hD]
  generalize openL l = x at hs hf hbo
  have b0 := bytes_at hbo 0
  have b1 := bytes_at hbo 1
  unfold formBad at hf
  match x, hf, hbo, hs with
  | [], hf, _, _ => simp at hf
  | [_], hf, _, _ => simp at hf
  | [_, _], hf, _, _ => simp at hf
  | a :: b :: c :: t, hf, hbo, hs =>
    have e0 : at_ (a :: b :: c :: t) 0 = a := rfl
    have e1 : at_ (a :: b :: c :: t) 1 = b := rfl
    have e2 : at_ (a :: b :: c :: t) 2 = c := rfl
    rw [e0, e2] at hf
    rw [e0] at b0
    rw [e1] at b1
    rw [e0, e1]
    simp only [List.length_cons] at hf
    simp only [List.drop_succ_cons, List.drop_zero]
    have hc : c = (t.length : Int) := by omega
    refine ⟨by unfold argF; omega, ?_⟩
    rw [hs]
    unfold encL
    rw [hc]; rfl
end Go.Proofs.YtnigocoanlaiiaaDoor.PE
