/- frame: a turned bit changes the sum by what it is worth at its place; turned bits within sixteen change it. -/
import Derived.Test.YtnigocoanlaiiaaDoorHRes
namespace Go.Proofs.YtnigocoanlaiiaaDoor.PE
open Go.RowKit Go.Proofs.YtnigocoanlaiiaaDoorW.PrintWords
set_option linter.unusedVariables false
set_option linter.unusedSimpArgs false
theorem crcL_xor : ∀ (l : List Int) (s t : BitVec 16), crcL (s ^^^ t) l = crcL s l ^^^ Tn (8 * l.length) t
  | [], s, t => rfl
  | c :: l, s, t => by
    show crcL (B (s ^^^ t) c) l = crcL (B s c) l ^^^ Tn (8 * (l.length + 1)) t
    have e : B (s ^^^ t) c = B s c ^^^ Tn 8 t := by
      unfold B
      rw [← Tn_xor]
      congr 1
      rw [BitVec.xor_assoc, BitVec.xor_comm t, ← BitVec.xor_assoc]
    rw [e, crcL_xor l, show 8 * (l.length + 1) = 8 + 8 * l.length by omega, Tn_add 8]
theorem crcL_set (pre post : List Int) (c d : Int) (s : BitVec 16) : crcL s (pre ++ d :: post) = crcL s (pre ++ c :: post) ^^^ Tn (8 * (post.length + 1)) ((BitVec.ofInt 16 c <<< 8) ^^^ (BitVec.ofInt 16 d <<< 8)) := by
  unfold crcL
  rw [List.foldl_append, List.foldl_append]
  show crcL (B (List.foldl B s pre) d) post = crcL (B (List.foldl B s pre) c) post ^^^ _
  generalize List.foldl B s pre = S
  have e : B S d = B S c ^^^ Tn 8 ((BitVec.ofInt 16 c <<< 8) ^^^ (BitVec.ofInt 16 d <<< 8)) := by
    unfold B
    rw [← Tn_xor]
    congr 1
    rw [BitVec.xor_assoc, ← BitVec.xor_assoc (BitVec.ofInt 16 c <<< 8), BitVec.xor_self, BitVec.zero_xor]
  rw [e, crcL_xor, show 8 * (post.length + 1) = 8 + 8 * post.length by omega, Tn_add 8]
/-- The top bit. -/
def top : BitVec 16 := 0x8000#16
theorem top_shift : ∀ k : Fin 16, Tn k.val (top >>> k.val) = top := by decide +kernel
theorem Tn_top (k m : Nat) (hk : k ≤ 15) : Tn (k + m) (top >>> k) = Tn m top := by
  rw [Tn_add, top_shift ⟨k, by omega⟩]
/-- The bits of the mask, the lowest one first: what they are worth. -/
def worth (mask : Nat) : Nat → BitVec 16
  | 0 => 0#16
  | i + 1 => worth mask i ^^^ (if mask.testBit i then top >>> i else 0#16)
theorem worth_bit (mask : Nat) : ∀ (i : Nat), i ≤ 16 → ∀ j, j < 16 → (worth mask i).getLsbD (15 - j) = (decide (j < i) && mask.testBit j)
  | 0, _, j, _ => by simp [worth]
  | i + 1, hi, j, hj => by
    rw [worth, BitVec.getLsbD_xor, worth_bit mask i (by omega) j hj]
    have ht : (top >>> i).getLsbD (15 - j) = decide (j = i) := by
      rw [BitVec.getLsbD_ushiftRight]
      have : ∀ n : Fin 32, top.getLsbD n.val = decide (n.val = 15) := by decide
      have h2 : top.getLsbD (i + (15 - j)) = decide (i + (15 - j) = 15) := this ⟨i + (15 - j), by omega⟩
      rw [h2]
      by_cases h : j = i
      · rw [decide_eq_true h, decide_eq_true (by omega)]
      · rw [decide_eq_false h, decide_eq_false (by omega)]
    by_cases hji : j = i
    · subst hji
      rw [decide_eq_false (by omega), decide_eq_true (by omega)]
      cases hm : mask.testBit j with
      | true => rw [if_pos rfl, ht]; simp
      | false => rw [if_neg (by decide)]; simp
    · have e : decide (j < i + 1) = decide (j < i) := by
        by_cases h : j < i
        · rw [decide_eq_true h, decide_eq_true (by omega)]
        · rw [decide_eq_false h, decide_eq_false (by omega)]
      rw [e]
      cases hm : mask.testBit i with
      | true => rw [if_pos rfl, ht, decide_eq_false hji]; simp
      | false => rw [if_neg (by decide)]; simp
theorem worth_zero (mask : Nat) (hm : mask < 65536) (h : worth mask 16 = 0#16) : mask = 0 := by
  apply Nat.eq_of_testBit_eq
  intro j
  rw [Nat.zero_testBit]
  by_cases hj : j < 16
  · have h2 := worth_bit mask 16 (Nat.le_refl _) j hj
    rw [h, decide_eq_true hj, Bool.true_and] at h2
    rw [← h2]; simp
  · exact Nat.testBit_lt_two_pow (Nat.lt_of_lt_of_le (show mask < 2 ^ 16 by omega) (Nat.pow_le_pow_right (by omega) (by omega)))
/-- A byte with bit r (from the top) turned. -/
def turnB (c : Int) (r : Nat) : Int := bits .xor .u8 c (128 / 2 ^ r)
theorem turnB_all : ∀ c : Fin 256, ∀ r : Fin 8, (BitVec.ofInt 16 (c.val : Int) <<< 8) ^^^ (BitVec.ofInt 16 (turnB (c.val : Int) r.val) <<< 8) = top >>> r.val ∧ 0 ≤ turnB (c.val : Int) r.val ∧ turnB (c.val : Int) r.val ≤ 255 := by decide +kernel
theorem turnB_at (c : Int) (hc : 0 ≤ c ∧ c ≤ 255) (r : Nat) (hr : r < 8) : (BitVec.ofInt 16 c <<< 8) ^^^ (BitVec.ofInt 16 (turnB c r) <<< 8) = top >>> r ∧ 0 ≤ turnB c r ∧ turnB c r ≤ 255 := by
  obtain ⟨n, rfl⟩ := Int.eq_ofNat_of_zero_le hc.1
  exact turnB_all ⟨n, by omega⟩ ⟨r, hr⟩
/-- Bytes with bit p turned. -/
def flip (l : List Int) (p : Nat) : List Int := l.set (p / 8) (turnB (at_ l (p / 8)) (p % 8))
theorem flip_len (l : List Int) (p : Nat) : (flip l p).length = l.length := by simp [flip]
theorem flip_bytes {l : List Int} (h : Bytes l) (p : Nat) : Bytes (flip l p) := by
  intro y hy
  unfold flip at hy
  rcases List.mem_or_eq_of_mem_set hy with h1 | h1
  · exact h y h1
  · rw [h1]; exact (turnB_at _ (bytes_at h _) _ (by omega)).2
theorem flip_sum {l : List Int} (h : Bytes l) (p : Nat) (hp : p < 8 * l.length) (s : BitVec 16) : crcL s (flip l p) = crcL s l ^^^ Tn (8 * l.length - p) top := by
  have hq : p / 8 < l.length := by omega
  have hl : l = l.take (p / 8) ++ at_ l (p / 8) :: l.drop (p / 8 + 1) := by
    have e : at_ l (p / 8) = l[p / 8] := by unfold at_; rw [List.getD_eq_getElem?_getD, List.getElem?_eq_getElem hq]; rfl
    rw [e, ← List.drop_eq_getElem_cons hq, List.take_append_drop]
  have hs : flip l p = l.take (p / 8) ++ turnB (at_ l (p / 8)) (p % 8) :: l.drop (p / 8 + 1) := by
    unfold flip
    rw [List.set_eq_take_append_cons_drop, if_pos hq]
  have hx := (turnB_at _ (bytes_at h (p / 8)) (p % 8) (by omega)).1
  have hc := crcL_set (l.take (p / 8)) (l.drop (p / 8 + 1)) (at_ l (p / 8)) (turnB (at_ l (p / 8)) (p % 8)) s
  rw [← hl, ← hs, hx, List.length_drop] at hc
  rw [hc]
  congr 1
  rw [show 8 * (l.length - (p / 8 + 1) + 1) = p % 8 + (8 * l.length - p) by omega]
  exact Tn_top _ _ (by omega)
/-- Bytes behind i rounds. -/
def turn (l : List Int) (a mask : Nat) : Nat → List Int
  | 0 => l
  | i + 1 => if mask.testBit i then flip (turn l a mask i) (a + i) else turn l a mask i
theorem turn_len (l : List Int) (a mask : Nat) : ∀ i, (turn l a mask i).length = l.length
  | 0 => rfl
  | i + 1 => by
    rw [turn]
    split
    · rw [flip_len]; exact turn_len l a mask i
    · exact turn_len l a mask i
theorem turn_bytes {l : List Int} (h : Bytes l) (a mask : Nat) : ∀ i, Bytes (turn l a mask i)
  | 0 => h
  | i + 1 => by
    rw [turn]
    split
    · exact flip_bytes (turn_bytes h a mask i) _
    · exact turn_bytes h a mask i
theorem turn_sum {l : List Int} (h : Bytes l) (a mask : Nat) (ha : a + 16 ≤ 8 * l.length) : ∀ i, i ≤ 16 → sumL (turn l a mask i) = sumL l ^^^ Tn (8 * l.length - a - 16) (Tn 16 (worth mask i))
  | 0, _ => by
    show sumL l = sumL l ^^^ Tn _ (Tn 16 0#16)
    rw [Tn_zero, Tn_zero, BitVec.xor_zero]
  | i + 1, hi => by
    rw [turn, worth]
    cases hm : mask.testBit i with
    | false =>
      rw [if_neg (by decide), if_neg (by decide), BitVec.xor_zero]
      exact turn_sum h a mask ha i (by omega)
    | true =>
      rw [if_pos rfl, if_pos rfl, Tn_xor, Tn_xor, ← BitVec.xor_assoc, ← turn_sum h a mask ha i (by omega)]
      have hf := flip_sum (turn_bytes h a mask i) (a + i) (by rw [turn_len]; omega) 0xffff#16
      rw [turn_len] at hf
      show crcL 0xffff#16 _ = crcL 0xffff#16 _ ^^^ _
      rw [hf]
      congr 1
      rw [show 8 * l.length - (a + i) = (16 - i) + (8 * l.length - a - 16) by omega, Tn_add]
      congr 1
      have := Tn_top i (16 - i) (by omega)
      rw [show i + (16 - i) = 16 by omega] at this
      exact this.symm
/-- THE STAGE'S THEOREM: a telegram with turned bits, all within sixteen, bears no right sum. -/
theorem burst {l : List Int} (h : Bytes l) (a mask : Nat) (ha : a + 16 ≤ 8 * l.length) (hm : mask < 65536) (h0 : mask ≠ 0) (hok : openOk l = true) : openOk (turn l a mask 16) = false := by
  have hz : sumL l = 0#16 := by
    unfold openOk at hok
    exact (num_zero _).1 (of_decide_eq_true (Bool.and_eq_true_iff.1 hok).2)
  have hs := turn_sum h a mask ha 16 (Nat.le_refl _)
  rw [hz, BitVec.zero_xor] at hs
  unfold openOk
  rw [decide_eq_false (p := num (sumL (turn l a mask 16)) = 0), Bool.and_false]
  intro hn
  have h1 := (num_zero _).1 hn
  rw [hs] at h1
  exact h0 (worth_zero mask hm (Tn_ker _ _ (Tn_ker _ _ h1)))
end Go.Proofs.YtnigocoanlaiiaaDoor.PE
