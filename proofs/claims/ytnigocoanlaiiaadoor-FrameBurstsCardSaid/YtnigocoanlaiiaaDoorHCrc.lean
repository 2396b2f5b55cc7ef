/- frame: the sum of sixteen bits, as bit vectors: one bit's step is linear and has no kernel; what the two functions of the code compute. -/
import Derived.Test.YtnigocoanlaiiaaDoorPFrameCodesx1
import Derived.Laws.Bits64
namespace Go.Proofs.YtnigocoanlaiiaaDoor.PE
open Go.RowKit Go.Proofs.YtnigocoanlaiiaaDoorW.PrintWords
set_option linter.unusedVariables false
set_option linter.unusedSimpArgs false
/-- One bit of the sum. -/
def T (x : BitVec 16) : BitVec 16 := if x.msb then (x <<< 1) ^^^ 0x1021#16 else x <<< 1
theorem T_xor (x y : BitVec 16) : T (x ^^^ y) = T x ^^^ T y := by
  unfold T
  rw [BitVec.msb_xor, BitVec.shiftLeft_xor_distrib]
  cases x.msb <;> cases y.msb
  · rfl
  · simp only [Bool.false_xor, if_true]
    exact BitVec.xor_assoc _ _ _
  · simp only [Bool.xor_false, if_true]
    rw [BitVec.xor_assoc, BitVec.xor_comm (y <<< 1) 0x1021#16, ← BitVec.xor_assoc]
    rfl
  · simp only [Bool.xor_self, if_true]
    rw [if_neg (by decide), BitVec.xor_comm (y <<< 1) 0x1021#16, ← BitVec.xor_assoc, BitVec.xor_assoc (x <<< 1), BitVec.xor_self, BitVec.xor_zero]
theorem T_zero : T 0#16 = 0#16 := by decide
theorem T_ker (x : BitVec 16) (h : T x = 0#16) : x = 0#16 := by
  unfold T at h
  cases hm : x.msb with
  | true =>
    rw [hm, if_pos rfl] at h
    have h0 := congrArg (fun v : BitVec 16 => v.getLsbD 0) h
    simp at h0
  | false =>
    rw [hm, if_neg (by decide)] at h
    apply BitVec.eq_of_getLsbD_eq
    intro i hi
    by_cases h15 : i = 15
    · subst h15
      have : x.msb = x.getLsbD 15 := by rw [BitVec.msb_eq_getLsbD_last]
      rw [← this, hm]; simp
    · have h0 := congrArg (fun v : BitVec 16 => v.getLsbD (i + 1)) h
      simp [BitVec.getLsbD_shiftLeft] at h0
      rw [h0 (by omega)]; simp
def Tn : Nat → BitVec 16 → BitVec 16
  | 0, x => x
  | n + 1, x => Tn n (T x)
theorem Tn_xor : ∀ (n : Nat) (x y : BitVec 16), Tn n (x ^^^ y) = Tn n x ^^^ Tn n y
  | 0, _, _ => rfl
  | n + 1, x, y => by rw [Tn, T_xor, Tn_xor n]; rfl
theorem Tn_zero : ∀ n : Nat, Tn n 0#16 = 0#16
  | 0 => rfl
  | n + 1 => by rw [Tn, T_zero, Tn_zero n]
theorem Tn_ker : ∀ (n : Nat) (x : BitVec 16), Tn n x = 0#16 → x = 0#16
  | 0, _, h => h
  | n + 1, x, h => T_ker x (Tn_ker n _ h)
theorem Tn_add : ∀ (m n : Nat) (x : BitVec 16), Tn (m + n) x = Tn n (Tn m x)
  | 0, n, x => by rw [Nat.zero_add]; rfl
  | m + 1, n, x => by rw [Nat.succ_add, Tn, Tn_add m n]; rfl
theorem Tn_inj (n : Nat) (x y : BitVec 16) (h : Tn n x = Tn n y) : x = y := by
  have h2 : Tn n (x ^^^ y) = 0#16 := by rw [Tn_xor, h, BitVec.xor_self]
  have h3 := Tn_ker n _ h2
  exact BitVec.xor_eq_zero_iff.1 h3
/-- A byte's step, and bytes'. -/
def B (s : BitVec 16) (c : Int) : BitVec 16 := Tn 8 (s ^^^ (BitVec.ofInt 16 c <<< 8))
def crcL (s : BitVec 16) (l : List Int) : BitVec 16 := l.foldl B s
/-- The sum as a number. -/
def num (s : BitVec 16) : Int := (s.toNat : Int)
theorem num_lt (s : BitVec 16) : 0 ≤ num s ∧ num s < 65536 := by unfold num; have := s.isLt; omega
theorem wrap16 (n : Int) : IntKind.u16.wrap n = n % 65536 := by simp [IntKind.wrap, IntKind.bits, IntKind.signed]
theorem num_ofInt (n : Int) : num (BitVec.ofInt 16 n) = n % 65536 := by
  unfold num; rw [BitVec.toNat_ofInt]; omega
theorem ofInt_num (s : BitVec 16) : BitVec.ofInt 16 (num s) = s := by
  unfold num; rw [BitVec.ofInt_natCast, BitVec.ofNat_toNat]; simp
theorem bits_xor (s t : BitVec 16) : bits .xor .u16 (num s) (num t) = num (s ^^^ t) := by
  show IntKind.u16.wrap ((BitVec.ofInt 16 (num s) ^^^ BitVec.ofInt 16 (num t)).toNat : Int) = _
  rw [ofInt_num, ofInt_num, wrap16]
  have := (s ^^^ t).isLt
  unfold num; omega
theorem num_shl1 (s : BitVec 16) : IntKind.u16.wrap (num s * 2) = num (s <<< 1) := by
  rw [wrap16]; unfold num; rw [BitVec.toNat_shiftLeft, Nat.shiftLeft_eq]; omega
theorem num_byte (c : Int) : IntKind.u16.wrap (IntKind.u16.wrap c * 256) = num (BitVec.ofInt 16 c <<< 8) := by
  rw [wrap16, wrap16]; unfold num; rw [BitVec.toNat_shiftLeft, Nat.shiftLeft_eq, BitVec.toNat_ofInt]; omega
theorem msb_num (s : BitVec 16) : s.msb = decide (num s ≥ 32768) := by
  rw [BitVec.msb_eq_decide]
  by_cases h : num s ≥ 32768
  · rw [decide_eq_true h, decide_eq_true]; unfold num at h; omega
  · rw [decide_eq_false h, decide_eq_false]; unfold num at h; omega
theorem T_num (s : BitVec 16) : num (T s) = if num s ≥ 32768 then bits .xor .u16 (IntKind.u16.wrap (num s * 2)) 4129 else IntKind.u16.wrap (num s * 2) := by
  unfold T
  rw [num_shl1, msb_num]
  have e : (4129 : Int) = num 0x1021#16 := by decide
  by_cases h : num s ≥ 32768
  · rw [if_pos h, decide_eq_true h, if_pos rfl, e, bits_xor]
  · rw [if_neg h, decide_eq_false h, if_neg (by decide)]
theorem and_high (s : BitVec 16) : (bits .and .u16 (num s) 32768 = 0) ↔ ¬ num s ≥ 32768 := by
  show IntKind.u16.wrap ((BitVec.ofInt 16 (num s) &&& BitVec.ofInt 16 32768).toNat : Int) = 0 ↔ _
  have h1 := (BitVec.ofInt 16 (num s) &&& BitVec.ofInt 16 32768).isLt
  rw [wrap16]
  have e : (BitVec.ofInt 16 (num s) &&& BitVec.ofInt 16 32768) = if s.msb then 0x8000#16 else 0#16 := by
    rw [ofInt_num]
    apply BitVec.eq_of_getLsbD_eq
    intro i hi
    have h15 : s.msb = s.getLsbD 15 := by rw [BitVec.msb_eq_getLsbD_last]
    have h8 : BitVec.ofInt 16 32768 = 0x8000#16 := by decide
    rw [h8, BitVec.getLsbD_and, h15]
    have : i = 0 ∨ i = 1 ∨ i = 2 ∨ i = 3 ∨ i = 4 ∨ i = 5 ∨ i = 6 ∨ i = 7 ∨ i = 8 ∨ i = 9 ∨ i = 10 ∨ i = 11 ∨ i = 12 ∨ i = 13 ∨ i = 14 ∨ i = 15 := by omega
    rcases this with rfl | rfl | rfl | rfl | rfl | rfl | rfl | rfl | rfl | rfl | rfl | rfl | rfl | rfl | rfl | rfl <;> cases s.getLsbD 15 <;> simp
  rw [e, msb_num]
  by_cases h : num s ≥ 32768
  · rw [decide_eq_true h, if_pos rfl]
    constructor
    · intro h2; exact absurd h2 (by decide)
    · intro h2; exact absurd h h2
  · rw [decide_eq_false h, if_neg (by decide)]
    exact ⟨fun _ => h, fun _ => by decide⟩
open PFrameCodes in
theorem one_l0 : ∀ (d : Nat) (x5 : Int), x5 = 8 - (d : Int) → d ≤ 8 → ∀ (k : Nat), d + 1 ≤ k → ∀ s : BitVec 16, crossbuckref02_one.l0 k (num s) x5 = some (num (Tn d s))
  | 0, x5, h, _, k, hk, s => by
    obtain ⟨j, rfl⟩ : ∃ j, k = j + 1 := ⟨k - 1, by omega⟩
    rw [crossbuckref02_one.l0, if_neg (by omega)]; rfl
  | d + 1, x5, h, hd, k, hk, s => by
    obtain ⟨j, rfl⟩ : ∃ j, k = j + 1 := ⟨k - 1, by omega⟩
    have hw : wrap64 (x5 + 1) = x5 + 1 := by unfold wrap64; omega
    have ht := T_num s
    rw [crossbuckref02_one.l0, if_pos (by omega), hw]
    by_cases hm : num s ≥ 32768
    · rw [if_pos hm] at ht ⊢
      rw [← ht]; exact one_l0 d _ (by omega) (by omega) j (by omega) _
    · rw [if_neg hm] at ht ⊢
      rw [← ht]; exact one_l0 d _ (by omega) (by omega) j (by omega) _
open PFrameCodes in
theorem turned_l0 : ∀ (d : Nat) (x5 : Int), x5 = 8 - (d : Int) → d ≤ 8 → ∀ (k : Nat), d + 1 ≤ k → ∀ s : BitVec 16, crc_turned.l0 k (num s) x5 = some (num (Tn d s))
  | 0, x5, h, _, k, hk, s => by
    obtain ⟨j, rfl⟩ : ∃ j, k = j + 1 := ⟨k - 1, by omega⟩
    rw [crc_turned.l0, if_neg (by omega)]; rfl
  | d + 1, x5, h, hd, k, hk, s => by
    obtain ⟨j, rfl⟩ : ∃ j, k = j + 1 := ⟨k - 1, by omega⟩
    have hw : wrap64 (x5 + 1) = x5 + 1 := by unfold wrap64; omega
    have ht := T_num s
    rw [crc_turned.l0, if_pos (by omega), hw]
    by_cases hm : num s ≥ 32768
    · rw [if_pos hm] at ht
      rw [if_neg (fun h2 => (and_high s).1 h2 hm), ← ht]; exact turned_l0 d _ (by omega) (by omega) j (by omega) _
    · rw [if_neg hm] at ht
      rw [if_pos ((and_high s).2 hm), ← ht]; exact turned_l0 d _ (by omega) (by omega) j (by omega) _
open PFrameCodes in
theorem one_f (k : Nat) (hk : 9 ≤ k) (s : BitVec 16) (c : Int) : crossbuckref02_one.f k (num s) c = some (num (B s c)) := by
  unfold crossbuckref02_one.f
  rw [num_byte, bits_xor]
  exact one_l0 8 0 (by omega) (by omega) k (by omega) _
open PFrameCodes in
theorem turned_f (k : Nat) (hk : 9 ≤ k) (s : BitVec 16) : crc_turned.f k (num s) = some (num (Tn 8 s)) := turned_l0 8 0 (by omega) (by omega) k (by omega) _
theorem rd_at (xs : List Int) (i : Int) (h0 : 0 ≤ i) (h1 : i < xs.length) : ∃ (a : List Int) (b : List Int), xs.drop i.toNat = rd xs i :: b ∧ b = xs.drop (i.toNat + 1) := by
  have hi : i.toNat < xs.length := by omega
  refine ⟨[], xs.drop (i.toNat + 1), ?_, rfl⟩
  rw [List.drop_eq_getElem_cons hi]
  congr 1
  simp [rd, List.getD, hi]
open PFrameCodes in
theorem radd_l0 (xs : List Int) (hx : xs.length ≤ 1000000) : ∀ (d : Nat) (x5 : Int), 0 ≤ x5 → x5 + (d : Int) = xs.length → ∀ (k : Nat), d + 11 ≤ k → ∀ s : BitVec 16, crossbuckref02_Add.l0 k (num s) xs x5 = some (num (crcL s (xs.drop x5.toNat)))
  | 0, x5, h0, h, k, hk, s => by
    obtain ⟨j, rfl⟩ : ∃ j, k = j + 1 := ⟨k - 1, by omega⟩
    rw [crossbuckref02_Add.l0, if_neg (by omega), List.drop_eq_nil_of_le (by omega)]; rfl
  | d + 1, x5, h0, h, k, hk, s => by
    obtain ⟨j, rfl⟩ : ∃ j, k = j + 1 := ⟨k - 1, by omega⟩
    have hw : wrap64 (x5 + 1) = x5 + 1 := by unfold wrap64; omega
    obtain ⟨_, b, hd, hb⟩ := rd_at xs x5 h0 (by omega)
    rw [crossbuckref02_Add.l0, if_pos (by omega), if_pos h0, hw, one_f j (by omega), hd]
    show crossbuckref02_Add.l0 j (num (B s (rd xs x5))) xs (x5 + 1) = some (num (crcL (B s (rd xs x5)) b))
    have e : b = xs.drop (x5 + 1).toNat := by rw [hb]; congr 1; omega
    rw [e]
    exact radd_l0 xs hx d _ (by omega) (by omega) j (by omega) _
open PFrameCodes in
theorem padd_l0 (xs : List Int) (hx : xs.length ≤ 1000000) : ∀ (d : Nat) (x5 : Int), 0 ≤ x5 → x5 + (d : Int) = xs.length → ∀ (k : Nat), d + 11 ≤ k → ∀ s : BitVec 16, crc_Add.l0 k (num s) xs (xs.length : Int) x5 = some (num (crcL s (xs.drop x5.toNat)))
  | 0, x5, h0, h, k, hk, s => by
    obtain ⟨j, rfl⟩ : ∃ j, k = j + 1 := ⟨k - 1, by omega⟩
    rw [crc_Add.l0, if_neg (by omega), List.drop_eq_nil_of_le (by omega)]; rfl
  | d + 1, x5, h0, h, k, hk, s => by
    obtain ⟨j, rfl⟩ : ∃ j, k = j + 1 := ⟨k - 1, by omega⟩
    have hw : wrap64 (x5 + 1) = x5 + 1 := by unfold wrap64; omega
    obtain ⟨_, b, hd, hb⟩ := rd_at xs x5 h0 (by omega)
    rw [crc_Add.l0, if_pos (by omega), if_pos h0, if_pos (by omega), hw, num_byte, bits_xor, turned_f j (by omega), hd]
    show crc_Add.l0 j (num (B s (rd xs x5))) xs (xs.length : Int) (x5 + 1) = some (num (crcL (B s (rd xs x5)) b))
    have e : b = xs.drop (x5 + 1).toNat := by rw [hb]; congr 1; omega
    rw [e]
    exact padd_l0 xs hx d _ (by omega) (by omega) j (by omega) _
/-- The sum of bytes. -/
def sumL (l : List Int) : BitVec 16 := crcL 0xffff#16 l
open PFrameCodes in
theorem rsum_f (xs : List Int) (hx : xs.length ≤ 1000000) : crossbuckref02_Sum.f (xs.length + 11) xs = some (num (sumL xs)) := by
  have h := radd_l0 xs hx xs.length 0 (by omega) (by omega) (xs.length + 11) (by omega) 0xffff#16
  have e : num 0xffff#16 = 65535 := by decide
  rw [e] at h
  unfold crossbuckref02_Sum.f crossbuckref02_Add.f
  rw [h]; rfl
open PFrameCodes in
theorem psum_f (xs : List Int) (hx : xs.length ≤ 1000000) : crc_Sum.f (xs.length + 11) xs = some (num (sumL xs)) := by
  have h := padd_l0 xs hx xs.length 0 (by omega) (by omega) (xs.length + 11) (by omega) 0xffff#16
  have e : num 0xffff#16 = 65535 := by decide
  rw [e] at h
  unfold crc_Sum.f crc_Add.f
  rw [h]; rfl
end Go.Proofs.YtnigocoanlaiiaaDoor.PE
