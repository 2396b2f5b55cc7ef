/- frame: the sum of sixteen bits, as bit vectors: one bit's step is linear and has no kernel; what the two functions of the code compute. -/
import Derived.Test.YtfijlaahifeimaaDoorPSx3
import Derived.Test.YtfijlaahifeimaaDoorPSx4
import Derived.Laws.Bits64
import Derived.Test.YtfijlaahifeimaaDoorMA
import Derived.Deep.RegionHeld3
import Derived.Lib.Bytes
namespace Go.Proofs.YtfijlaahifeimaaDoor.PE
open Go.RowKit Go.Proofs.YtfijlaahifeimaaDoorW.PrintWords
set_option linter.unusedVariables false
set_option linter.unusedSimpArgs false
/-- One bit of the sum. -/
def T (x : BitVec 16) : BitVec 16 := if x.msb then (x <<< 1) ^^^ 0x1021#16 else x <<< 1
theorem T_xor (x y : BitVec 16) : T (x ^^^ y) = T x ^^^ T y := by
  unfold T
  rw [BitVec.msb_xor, BitVec.shiftLeft_xor_distrib]
  cases x.msb <;> cases y.msb
  · rfl
  · simp only [Bool.false_xor, if_true]
    exact BitVec.xor_assoc _ _ _
  · simp only [Bool.xor_false, if_true]
    rw [BitVec.xor_assoc, BitVec.xor_comm (y <<< 1) 0x1021#16, ← BitVec.xor_assoc]
    rfl
  · simp only [Bool.xor_self, if_true]
    rw [if_neg (by decide), BitVec.xor_comm (y <<< 1) 0x1021#16, ← BitVec.xor_assoc, BitVec.xor_assoc (x <<< 1), BitVec.xor_self, BitVec.xor_zero]
theorem T_zero : T 0#16 = 0#16 := by decide
theorem T_ker (x : BitVec 16) (h : T x = 0#16) : x = 0#16 := by
  unfold T at h
  cases hm : x.msb with
  | true =>
    rw [hm, if_pos rfl] at h
    have h0 := congrArg (fun v : BitVec 16 => v.getLsbD 0) h
    simp at h0
  | false =>
    rw [hm, if_neg (by decide)] at h
    apply BitVec.eq_of_getLsbD_eq
    intro i hi
    by_cases h15 : i = 15
    · subst h15
      have : x.msb = x.getLsbD 15 := by rw [BitVec.msb_eq_getLsbD_last]
      rw [← this, hm]; simp
    · have h0 := congrArg (fun v : BitVec 16 => v.getLsbD (i + 1)) h
      simp [BitVec.getLsbD_shiftLeft] at h0
      rw [h0 (by omega)]; simp
def Tn : Nat → BitVec 16 → BitVec 16
  | 0, x => x
  | n + 1, x => Tn n (T x)
theorem Tn_xor : ∀ (n : Nat) (x y : BitVec 16), Tn n (x ^^^ y) = Tn n x ^^^ Tn n y
  | 0, _, _ => rfl
  | n + 1, x, y => by rw [Tn, T_xor, Tn_xor n]; rfl
theorem Tn_zero : ∀ n : Nat, Tn n 0#16 = 0#16
  | 0 => rfl
  | n + 1 => by rw [Tn, T_zero, Tn_zero n]
theorem Tn_ker : ∀ (n : Nat) (x : BitVec 16), Tn n x = 0#16 → x = 0#16
  | 0, _, h => h
  | n + 1, x, h => T_ker x (Tn_ker n _ h)
theorem Tn_add : ∀ (m n : Nat) (x : BitVec 16), Tn (m + n) x = Tn n (Tn m x)
  | 0, n, x => by rw [Nat.zero_add]; rfl
  | m + 1, n, x => by rw [Nat.succ_add, Tn, Tn_add m n]; rfl
theorem Tn_inj (n : Nat) (x y : BitVec 16) (h : Tn n x = Tn n y) : x = y := by
  have h2 : Tn n (x ^^^ y) = 0#16 := by rw [Tn_xor, h, BitVec.xor_self]
  have h3 := Tn_ker n _ h2
  exact BitVec.xor_eq_zero_iff.1 h3
/-- A byte's step, and bytes'. -/
def B (s : BitVec 16) (c : Int) : BitVec 16 := Tn 8 (s ^^^ (BitVec.ofInt 16 c <<< 8))
def crcL (s : BitVec 16) (l : List Int) : BitVec 16 := l.foldl B s
/-- The sum as a number. -/
def num (s : BitVec 16) : Int := (s.toNat : Int)
theorem num_lt (s : BitVec 16) : 0 ≤ num s ∧ num s < 65536 := by unfold num; have := s.isLt; omega
theorem wrap16 (n : Int) : IntKind.u16.wrap n = n % 65536 := by simp [IntKind.wrap, IntKind.bits, IntKind.signed]
theorem num_ofInt (n : Int) : num (BitVec.ofInt 16 n) = n % 65536 := by
  unfold num; rw [BitVec.toNat_ofInt]; omega
theorem ofInt_num (s : BitVec 16) : BitVec.ofInt 16 (num s) = s := by
  unfold num; rw [BitVec.ofInt_natCast, BitVec.ofNat_toNat]; simp
theorem bits_xor (s t : BitVec 16) : bits .xor .u16 (num s) (num t) = num (s ^^^ t) := by
  show IntKind.u16.wrap ((BitVec.ofInt 16 (num s) ^^^ BitVec.ofInt 16 (num t)).toNat : Int) = _
  rw [ofInt_num, ofInt_num, wrap16]
  have := (s ^^^ t).isLt
  unfold num; omega
theorem num_shl1 (s : BitVec 16) : IntKind.u16.wrap (num s * 2) = num (s <<< 1) := by
  rw [wrap16]; unfold num; rw [BitVec.toNat_shiftLeft, Nat.shiftLeft_eq]; omega
theorem num_byte (c : Int) : IntKind.u16.wrap (IntKind.u16.wrap c * 256) = num (BitVec.ofInt 16 c <<< 8) := by
  rw [wrap16, wrap16]; unfold num; rw [BitVec.toNat_shiftLeft, Nat.shiftLeft_eq, BitVec.toNat_ofInt]; omega
theorem msb_num (s : BitVec 16) : s.msb = decide (num s ≥ 32768) := by
  rw [BitVec.msb_eq_decide]
  by_cases h : num s ≥ 32768
  · rw [decide_eq_true h, decide_eq_true]; unfold num at h; omega
  · rw [decide_eq_false h, decide_eq_false]; unfold num at h; omega
theorem T_num (s : BitVec 16) : num (T s) = if num s ≥ 32768 then bits .xor .u16 (IntKind.u16.wrap (num s * 2)) 4129 else IntKind.u16.wrap (num s * 2) := by
  unfold T
  rw [num_shl1, msb_num]
  have e : (4129 : Int) = num 0x1021#16 := by decide
  by_cases h : num s ≥ 32768
  · rw [if_pos h, decide_eq_true h, if_pos rfl, e, bits_xor]
  · rw [if_neg h, decide_eq_false h, if_neg (by decide)]
theorem and_high (s : BitVec 16) : (bits .and .u16 (num s) 32768 = 0) ↔ ¬ num s ≥ 32768 := by
  show IntKind.u16.wrap ((BitVec.ofInt 16 (num s) &&& BitVec.ofInt 16 32768).toNat : Int) = 0 ↔ _
  have h1 := (BitVec.ofInt 16 (num s) &&& BitVec.ofInt 16 32768).isLt
  rw [wrap16]
  have e : (BitVec.ofInt 16 (num s) &&& BitVec.ofInt 16 32768) = if s.msb then 0x8000#16 else 0#16 := by
    rw [ofInt_num]
    apply BitVec.eq_of_getLsbD_eq
    intro i hi
    have h15 : s.msb = s.getLsbD 15 := by rw [BitVec.msb_eq_getLsbD_last]
    have h8 : BitVec.ofInt 16 32768 = 0x8000#16 := by decide
    rw [h8, BitVec.getLsbD_and, h15]
    have : i = 0 ∨ i = 1 ∨ i = 2 ∨ i = 3 ∨ i = 4 ∨ i = 5 ∨ i = 6 ∨ i = 7 ∨ i = 8 ∨ i = 9 ∨ i = 10 ∨ i = 11 ∨ i = 12 ∨ i = 13 ∨ i = 14 ∨ i = 15 := by omega
    rcases this with rfl | rfl | rfl | rfl | rfl | rfl | rfl | rfl | rfl | rfl | rfl | rfl | rfl | rfl | rfl | rfl <;> cases s.getLsbD 15 <;> simp
  rw [e, msb_num]
  by_cases h : num s ≥ 32768
  · rw [decide_eq_true h, if_pos rfl]
    constructor
    · intro h2; exact absurd h2 (by decide)
    · intro h2; exact absurd h h2
  · rw [decide_eq_false h, if_neg (by decide)]
    exact ⟨fun _ => h, fun _ => by decide⟩
open PS in
theorem one_l0 : ∀ (d : Nat) (x5 : Int), x5 = 8 - (d : Int) → d ≤ 8 → ∀ (k : Nat), d + 1 ≤ k → ∀ s : BitVec 16, crossbuckref02_one.l0 k (num s) x5 = some (num (Tn d s))
  | 0, x5, h, _, k, hk, s => by
    obtain ⟨j, rfl⟩ : ∃ j, k = j + 1 := ⟨k - 1, by omega⟩
    rw [crossbuckref02_one.l0, if_neg (by omega)]; rfl
  | d + 1, x5, h, hd, k, hk, s => by
    obtain ⟨j, rfl⟩ : ∃ j, k = j + 1 := ⟨k - 1, by omega⟩
    have hw : wrap64 (x5 + 1) = x5 + 1 := by unfold wrap64; omega
    have ht := T_num s
    rw [crossbuckref02_one.l0, if_pos (by omega), hw]
    by_cases hm : num s ≥ 32768
    · rw [if_pos hm] at ht ⊢
      rw [← ht]; exact one_l0 d _ (by omega) (by omega) j (by omega) _
    · rw [if_neg hm] at ht ⊢
      rw [← ht]; exact one_l0 d _ (by omega) (by omega) j (by omega) _
open PS in
theorem turned_l0 : ∀ (d : Nat) (x5 : Int), x5 = 8 - (d : Int) → d ≤ 8 → ∀ (k : Nat), d + 1 ≤ k → ∀ s : BitVec 16, crc_turned.l0 k (num s) x5 = some (num (Tn d s))
  | 0, x5, h, _, k, hk, s => by
    obtain ⟨j, rfl⟩ : ∃ j, k = j + 1 := ⟨k - 1, by omega⟩
    rw [crc_turned.l0, if_neg (by omega)]; rfl
  | d + 1, x5, h, hd, k, hk, s => by
    obtain ⟨j, rfl⟩ : ∃ j, k = j + 1 := ⟨k - 1, by omega⟩
    have hw : wrap64 (x5 + 1) = x5 + 1 := by unfold wrap64; omega
    have ht := T_num s
    rw [crc_turned.l0, if_pos (by omega), hw]
    by_cases hm : num s ≥ 32768
    · rw [if_pos hm] at ht
      rw [if_neg (fun h2 => (and_high s).1 h2 hm), ← ht]; exact turned_l0 d _ (by omega) (by omega) j (by omega) _
    · rw [if_neg hm] at ht
      rw [if_pos ((and_high s).2 hm), ← ht]; exact turned_l0 d _ (by omega) (by omega) j (by omega) _
open PS in
theorem one_f (k : Nat) (hk : 9 ≤ k) (s : BitVec 16) (c : Int) : crossbuckref02_one.f k (num s) c = some (num (B s c)) := by
  unfold crossbuckref02_one.f
  rw [num_byte, bits_xor]
  exact one_l0 8 0 (by omega) (by omega) k (by omega) _
open PS in
theorem turned_f (k : Nat) (hk : 9 ≤ k) (s : BitVec 16) : crc_turned.f k (num s) = some (num (Tn 8 s)) := turned_l0 8 0 (by omega) (by omega) k (by omega) _
theorem rd_at (xs : List Int) (i : Int) (h0 : 0 ≤ i) (h1 : i < xs.length) : ∃ (a : List Int) (b : List Int), xs.drop i.toNat = rd xs i :: b ∧ b = xs.drop (i.toNat + 1) := by
  have hi : i.toNat < xs.length := by omega
  refine ⟨[], xs.drop (i.toNat + 1), ?_, rfl⟩
  rw [List.drop_eq_getElem_cons hi]
  congr 1
  simp [rd, List.getD, hi]
open PS in
theorem radd_l0 (xs : List Int) (hx : xs.length ≤ 140737488351232) : ∀ (d : Nat) (x5 : Int), 0 ≤ x5 → x5 + (d : Int) = xs.length → ∀ (k : Nat), d + 11 ≤ k → ∀ s : BitVec 16, crossbuckref02_Add.l0 k (num s) xs x5 = some (num (crcL s (xs.drop x5.toNat)))
  | 0, x5, h0, h, k, hk, s => by
    obtain ⟨j, rfl⟩ : ∃ j, k = j + 1 := ⟨k - 1, by omega⟩
    rw [crossbuckref02_Add.l0, if_neg (by omega), List.drop_eq_nil_of_le (by omega)]; rfl
  | d + 1, x5, h0, h, k, hk, s => by
    obtain ⟨j, rfl⟩ : ∃ j, k = j + 1 := ⟨k - 1, by omega⟩
    have hw : wrap64 (x5 + 1) = x5 + 1 := by unfold wrap64; omega
    obtain ⟨_, b, hd, hb⟩ := rd_at xs x5 h0 (by omega)
    rw [crossbuckref02_Add.l0, if_pos (by omega), if_pos h0, hw, one_f j (by omega), hd]
    show crossbuckref02_Add.l0 j (num (B s (rd xs x5))) xs (x5 + 1) = some (num (crcL (B s (rd xs x5)) b))
    have e : b = xs.drop (x5 + 1).toNat := by rw [hb]; congr 1; omega
    rw [e]
    exact radd_l0 xs hx d _ (by omega) (by omega) j (by omega) _
open PS in
theorem padd_l0 (xs : List Int) (hx : xs.length ≤ 140737488351232) : ∀ (d : Nat) (x5 : Int), 0 ≤ x5 → x5 + (d : Int) = xs.length → ∀ (k : Nat), d + 11 ≤ k → ∀ s : BitVec 16, crc_Add.l0 k (num s) xs (xs.length : Int) x5 = some (num (crcL s (xs.drop x5.toNat)))
  | 0, x5, h0, h, k, hk, s => by
    obtain ⟨j, rfl⟩ : ∃ j, k = j + 1 := ⟨k - 1, by omega⟩
    rw [crc_Add.l0, if_neg (by omega), List.drop_eq_nil_of_le (by omega)]; rfl
  | d + 1, x5, h0, h, k, hk, s => by
    obtain ⟨j, rfl⟩ : ∃ j, k = j + 1 := ⟨k - 1, by omega⟩
    have hw : wrap64 (x5 + 1) = x5 + 1 := by unfold wrap64; omega
    obtain ⟨_, b, hd, hb⟩ := rd_at xs x5 h0 (by omega)
    rw [crc_Add.l0, if_pos (by omega), if_pos h0, if_pos (by omega), hw, num_byte, bits_xor, turned_f j (by omega), hd]
    show crc_Add.l0 j (num (B s (rd xs x5))) xs (xs.length : Int) (x5 + 1) = some (num (crcL (B s (rd xs x5)) b))
    have e : b = xs.drop (x5 + 1).toNat := by rw [hb]; congr 1; omega
    rw [e]
    exact padd_l0 xs hx d _ (by omega) (by omega) j (by omega) _
/-- The sum of bytes. -/
def sumL (l : List Int) : BitVec 16 := crcL 0xffff#16 l
open PS in
theorem rsum_f (xs : List Int) (hx : xs.length ≤ 140737488351232) : crossbuckref02_Sum.f (xs.length + 11) xs = some (num (sumL xs)) := by
  have h := radd_l0 xs hx xs.length 0 (by omega) (by omega) (xs.length + 11) (by omega) 0xffff#16
  have e : num 0xffff#16 = 65535 := by decide
  rw [e] at h
  unfold crossbuckref02_Sum.f crossbuckref02_Add.f
  rw [h]; rfl
open PS in
theorem psum_f (xs : List Int) (hx : xs.length ≤ 140737488351232) : crc_Sum.f (xs.length + 11) xs = some (num (sumL xs)) := by
  have h := padd_l0 xs hx xs.length 0 (by omega) (by omega) (xs.length + 11) (by omega) 0xffff#16
  have e : num 0xffff#16 = 65535 := by decide
  rw [e] at h
  unfold crc_Sum.f crc_Add.f
  rw [h]; rfl
end Go.Proofs.YtfijlaahifeimaaDoor.PE
/- frame: Seal, of the code and of the reference. -/
namespace Go.Proofs.YtfijlaahifeimaaDoor.PE
open Go.RowKit Go.Extern.Stop Go.Stop Go.Extern Go.Proofs.YtfijlaahifeimaaDoorW.PrintWords Go.Proofs.YtfijlaahifeimaaDoorW.PrintLast Go.Proofs.YtfijlaahifeimaaDoorW.PrintMore
set_option linter.unusedVariables false
set_option linter.unusedSimpArgs false
/-- Bytes, and their sum behind them. -/
def sealL (l : List Int) : List Int := l ++ [num (sumL l) / 256, num (sumL l) % 256]
open PS in
theorem RSeal_calls (A : Option Addr) (c : Nat) (l : List Int) (w : World) (hC : Kd.C (Kd.int .u8) w A l.length l) (hc : l.length ≤ c) (hl : l.length ≤ 140737488351232) :
    Calls Tryd.prog 71 #[.slice A l.length c] w fun e w' => ∃ v, e = .returned v ∧ Kd.R (Kd.int .u8) 5 w' w.heap.size (fun _ => True) v (sealL l) ∧ Below w.heap.size w w' := by
  refine crossbuckref02_Seal.calls (l.length + 11) A c l (sealL l) w hC hc ?_
  unfold crossbuckref02_Seal.f
  rw [rsum_f l hl]
  have hn := num_lt (sumL l)
  generalize hN : num (sumL l) = N at hn ⊢
  simp only [Option.bind_some, List.length_nil, List.nil_append]
  rw [if_pos (by omega), if_pos (by simp; omega), wrap16]
  have e1 : (N.tdiv 256 % 65536) % 256 = N / 256 := by
    rw [Int.tdiv_eq_ediv_of_nonneg hn.1]; omega
  have e2 : (N.tmod 256) % 256 = N % 256 := by
    rw [Int.tmod_eq_emod_of_nonneg hn.1]; omega
  rw [e1, e2]
  unfold sealL
  rw [hN]
theorem C_two (w : World) (x y : Int) : Kd.C (Kd.int .u8) (w.alloc (.cells #[.int .u8 x, .int .u8 y] 5)) (some ⟨w.heap.size, 0, none⟩) 2 [x, y] := by
  refine ⟨rfl, by decide, fun _ => ⟨⟨w.heap.size, 0, none⟩, rfl, fun j p hj => ?_⟩⟩
  match j with
  | 0 =>
    have hp : x = p := by simpa using hj
    subst hp
    refine ⟨[.int .u8 x], rfl, rfl, fun i u hu => ?_⟩
    match i with
    | 0 =>
      have hu : Value.int .u8 x = u := by simpa using hu
      subst hu
      exact cell_new w #[.int .u8 x, .int .u8 y] 5 0
    | i + 1 => simp at hu
  | 1 =>
    have hp : y = p := by simpa using hj
    subst hp
    refine ⟨[.int .u8 y], rfl, rfl, fun i u hu => ?_⟩
    match i with
    | 0 =>
      have hu : Value.int .u8 y = u := by simpa using hu
      subst hu
      exact cell_new w #[.int .u8 x, .int .u8 y] 5 1
    | i + 1 => simp at hu
  | j + 2 => simp at hj
end Go.Proofs.YtfijlaahifeimaaDoor.PE
/- frame: Encode, of the code. -/
namespace Go.Proofs.YtfijlaahifeimaaDoor.PE
open Go.RowKit Go.Extern.Stop Go.Stop Go.Extern Go.Proofs.YtfijlaahifeimaaDoorW.PrintWords Go.Proofs.YtfijlaahifeimaaDoorW.PrintLast Go.Proofs.YtfijlaahifeimaaDoorW.PrintMore
set_option linter.unusedVariables false
set_option linter.unusedSimpArgs false
/-- A telegram that may not be encoded. -/
def argF (ch sq : Int) (n : Nat) : Prop := ch < 0 ∨ 15 < ch ∨ sq < 0 ∨ 255 < sq ∨ 16 < n
instance (ch sq : Int) (n : Nat) : Decidable (argF ch sq n) := by unfold argF; infer_instance
/-- A telegram's bytes. -/
def encL (ch sq : Int) (xs : List Int) : List Int := sealL ([ch, sq, (xs.length : Int)] ++ xs)
def encE (ch sq : Int) (n : Nat) : Int := if argF ch sq n then 1 else 0
def encB (ch sq : Int) (xs : List Int) : List Int := if argF ch sq xs.length then [] else encL ch sq xs
theorem wrap8 (n : Int) : IntKind.u8.wrap n = n % 256 := by simp [IntKind.wrap, IntKind.bits, IntKind.signed]
theorem cell_same_blk2 {W W' : World} {g : Nat} (h : W'.heap[g]? = W.heap[g]?) (k : Nat) : W'.cell? ⟨g, k, none⟩ = W.cell? ⟨g, k, none⟩ := by
  unfold World.cell?; simp only [h]
end Go.Proofs.YtfijlaahifeimaaDoor.PE
/- frame: Open and Encode, of the reference. -/
namespace Go.Proofs.YtfijlaahifeimaaDoor.PE
open Go.RowKit Go.Extern.Stop Go.Stop Go.Extern Go.Proofs.YtfijlaahifeimaaDoorW.PrintWords Go.Proofs.YtfijlaahifeimaaDoorW.PrintLast Go.Proofs.YtfijlaahifeimaaDoorW.PrintMore
set_option linter.unusedVariables false
set_option linter.unusedSimpArgs false
open PS in
theorem REncode_calls (ch sq : Int) (A : Option Addr) (c : Nat) (xs : List Int) (w : World) (hC : Kd.C (Kd.int .u8) w A xs.length xs) (hc : xs.length ≤ c) (hx : xs.length ≤ 300) :
    Calls Tryd.prog 55 #[.agg #[.int .i64 ch, .int .i64 sq, .slice A xs.length c]] w fun e w' => ∃ v, e = .returned (.tuple #[v, .int .i64 (encE ch sq xs.length)]) ∧ Kd.R (Kd.int .u8) 5 w' w.heap.size (fun _ => True) v (encB ch sq xs) ∧ Below w.heap.size w w' := by
  refine crossbuckref06_Encode.calls (xs.length + 14) ch sq A c xs _ _ w hC hc ?_
  unfold crossbuckref06_Encode.f
  by_cases ha : argF ch sq xs.length
  · have e1 : encE ch sq xs.length = 1 := if_pos ha
    have e2 : encB ch sq xs = [] := if_pos ha
    rw [e1, e2]
    unfold argF at ha
    by_cases h0 : ch < 0
    · exact if_pos h0
    rw [if_neg h0]
    by_cases h1 : ch > 15
    · exact if_pos h1
    rw [if_neg h1]
    by_cases h2 : sq < 0
    · exact if_pos h2
    rw [if_neg h2]
    by_cases h3 : sq > 255
    · exact if_pos h3
    rw [if_neg h3]
    exact if_pos (by omega)
  · have e1 : encE ch sq xs.length = 0 := if_neg ha
    have e2 : encB ch sq xs = encL ch sq xs := if_neg ha
    rw [e1, e2]
    unfold argF at ha
    rw [if_neg (by omega), if_neg (by omega), if_neg (by omega), if_neg (by omega), if_neg (by omega)]
    have m1 : ch % 256 = ch := by omega
    have m2 : sq % 256 = sq := by omega
    have m3 : (xs.length : Int) % 256 = xs.length := by omega
    rw [m1, m2, m3]
    show (if ([ch, sq, (xs.length : Int)] : List Int).length + xs.length < 140737488355328 then ((crossbuckref02_Seal.f (xs.length + 14) ([ch, sq, (xs.length : Int)] ++ xs)).bind fun t125 => (some (t125, (0 : Int)))) else none) = some (encL ch sq xs, 0)
    rw [if_pos (by simp; omega)]
    unfold encL
    generalize hL : ([ch, sq, (xs.length : Int)] ++ xs : List Int) = L
    have hl : L.length + 11 = xs.length + 14 := by rw [← hL]; simp
    have hs : crossbuckref02_Seal.f (L.length + 11) L = some (sealL L) := by
      unfold crossbuckref02_Seal.f
      rw [rsum_f L (by omega)]
      have hn := num_lt (sumL L)
      generalize hN : num (sumL L) = M at hn ⊢
      simp only [Option.bind_some, List.length_nil, List.nil_append]
      rw [if_pos (by omega), if_pos (by simp; omega), wrap16]
      have e1 : (M.tdiv 256 % 65536) % 256 = M / 256 := by
        rw [Int.tdiv_eq_ediv_of_nonneg hn.1]; omega
      have e2 : (M.tmod 256) % 256 = M % 256 := by
        rw [Int.tmod_eq_emod_of_nonneg hn.1]; omega
      rw [e1, e2]
      unfold sealL
      rw [hN]
    rw [← hl, hs]
    rfl
end Go.Proofs.YtfijlaahifeimaaDoor.PE
/- frame: Open, of the code. -/
namespace Go.Proofs.YtfijlaahifeimaaDoor.PE
open Go.RowKit Go.Extern.Stop Go.Stop Go.Extern Go.Proofs.YtfijlaahifeimaaDoorW.PrintWords Go.Proofs.YtfijlaahifeimaaDoorW.PrintLast Go.Proofs.YtfijlaahifeimaaDoorW.PrintMore
set_option linter.unusedVariables false
set_option linter.unusedSimpArgs false
/-- Do bytes bear their sum; the bytes without it. -/
def openOk (l : List Int) : Bool := decide (2 ≤ l.length) && decide (num (sumL l) = 0)
def openL (l : List Int) : List Int := if openOk l then l.take (l.length - 2) else []
set_option maxHeartbeats 8000000 in
set_option maxRecDepth 100000 in
theorem Open_calls (A : Option Addr) (c : Nat) (l : List Int) (w : World) (hC : Kd.C (Kd.int .u8) w A l.length l) (hc : l.length ≤ c) (hl : l.length ≤ 140737488351232) :
    Calls Tryd.prog 67 #[.slice A l.length c] w fun e w' => ∃ v, e = .returned (.tuple #[v, .bool (openOk l)]) ∧ Kd.R (Kd.int .u8) 5 w' w.heap.size (fun _ => True) v (openL l) ∧ Below w.heap.size w w' := by
  have HC := Aside0.mk hC
  have HCC := Aside0.mk hc
  have HN := Aside0.mk hl
  clear hC hc
  by_cases h2 : (l.length : Int) < 2
  · have d2 : decide ((l.length : Int) < 2) = true := decide_eq_true h2
    have HO := Aside0.mk (show openOk l = false by unfold openOk; rw [decide_eq_false (by omega)]; rfl)
    have HL := Aside0.mk (show openL l = [] by unfold openL; rw [HO.out]; rfl)
    go_enter Tryd.func67, Tryd.ntmps67
    go_wp2_with fail
    go_ret2
    rw [HO.out, HL.out]
    exact ⟨_, rfl, Kd.R_nil _ _ _ _ _, Below.refl _ _⟩
  have d2 : decide ((l.length : Int) < 2) = false := decide_eq_false h2
  have HS := Aside0.mk (psum_f l (by omega))
  by_cases h0 : num (sumL l) = 0
  · have HO := Aside0.mk (show openOk l = true by unfold openOk; rw [decide_eq_true (by omega), decide_eq_true h0]; rfl)
    have HL := Aside0.mk (show openL l = l.take (l.length - 2) by unfold openL; rw [HO.out]; rfl)
    have hw : wrap64 ((l.length : Int) - 2) = l.length - 2 := by unfold wrap64; omega
    have HW := Aside0.mk hw
    clear hw
    rw [h0] at HS
    obtain ⟨i0, hi0, _, hsz, _⟩ := info_parts info5
    have hjj : 0 ≤ (l.length : Int) - 2 ∧ (l.length : Int) - 2 ≤ l.length := by omega
    obtain ⟨hcut, hA, hC2⟩ := print_take_of (P := Tryd.prog) (Value.int .u8) 0 44 5 .i64 Tryd.underlying44 hi0 hsz A c l ((l.length : Int) - 2) hjj.1 hjj.2 HCC.out
    have et : ((l.length : Int) - 2).toNat = l.length - 2 := by omega
    have HT := Aside0.mk (Kd.C_of_reads (h1 := fun _ => rfl) (hA w (Kd.reads_of_C HC.out)))
    have HCUT := Aside0.mk hcut
    have HC2 := Aside0.mk hC2
    have HET := Aside0.mk et
    clear hi0 hsz hA hC2 hcut et hjj
    go_enter Tryd.func67, Tryd.ntmps67
    go_wp2_with fail
    refine (PS.crc_Sum.calls (l.length + 11) A c l 0 w HC.out HCC.out HS.out).mono ?_
    rintro e w1 ⟨rfl, hd⟩
    have B1 := Aside0.mk hd.below
    clear hd
    have hw := HW.out
    have hcut := HCUT.out
    go_wp2_with fail
    have hT := HT.out
    rw [HET.out] at hT
    have hlen : (l.take (l.length - 2)).length = l.length - 2 := by rw [List.length_take]; omega
    rw [hlen] at hT
    refine (clone_calls A (l.length - 2) c (l.take (l.length - 2)) w1 (Kd.C_below hT B1.out) (by omega)).mono ?_
    rintro e w2 ⟨v, rfl, hR, hb⟩
    have B2 := Aside0.mk (below_thenB B1.out hb B1.out.size)
    have R2 := Aside0.mk (Kd.R_lower hR B1.out.size)
    obtain ⟨A2, c2, hv, -, -⟩ := Kd.R_reads hR
    generalize (List.take (l.length - 2) l).length = m at hv
    subst hv
    clear hR hb hT hlen hcut hw
    go_wp2_with fail
    go_ret2
    rw [HO.out, HL.out]
    exact ⟨_, rfl, R2.out, B2.out⟩
  · have HO := Aside0.mk (show openOk l = false by unfold openOk; rw [decide_eq_false h0, Bool.and_false])
    have HL := Aside0.mk (show openL l = [] by unfold openL; rw [HO.out]; rfl)
    have dn : (num (sumL l) != 0) = true := by simpa using h0
    generalize num (sumL l) = M at HS dn h0
    go_enter Tryd.func67, Tryd.ntmps67
    go_wp2_with fail
    refine (PS.crc_Sum.calls (l.length + 11) A c l M w HC.out HCC.out HS.out).mono ?_
    rintro e w1 ⟨rfl, hd⟩
    have B1 := Aside0.mk hd.below
    clear hd
    go_wp2_with fail
    go_ret2
    rw [HO.out, HL.out]
    exact ⟨_, rfl, Kd.R_nil _ _ _ _ _, B1.out⟩
end Go.Proofs.YtfijlaahifeimaaDoor.PE
/- frame: Decode, of the code. -/
namespace Go.Proofs.YtfijlaahifeimaaDoor.PE
open Go.RowKit Go.Extern.Stop Go.Stop Go.Extern Go.Proofs.YtfijlaahifeimaaDoorW.PrintWords Go.Proofs.YtfijlaahifeimaaDoorW.PrintLast Go.Proofs.YtfijlaahifeimaaDoorW.PrintMore
set_option linter.unusedVariables false
set_option linter.unusedSimpArgs false
/-- A byte of a row. -/
def at_ (x : List Int) (i : Nat) : Int := x.getD i 0
def formBad (x : List Int) : Prop := x.length < 3 ∨ 15 < at_ x 0 ∨ 16 < at_ x 2 ∨ (x.length : Int) - 3 ≠ at_ x 2
instance (x : List Int) : Decidable (formBad x) := by unfold formBad; infer_instance
/-- The number of Decode's error, and the telegram. -/
def decE (l : List Int) : Int := if openOk l = false then 3 else if formBad (openL l) then 2 else 0
def decC (l : List Int) : Int := if decE l = 0 then at_ (openL l) 0 else 0
def decQ (l : List Int) : Int := if decE l = 0 then at_ (openL l) 1 else 0
def decD (l : List Int) : List Int := if decE l = 0 then (openL l).drop 3 else []
def Bytes (l : List Int) : Prop := ∀ y ∈ l, 0 ≤ y ∧ y ≤ 255
theorem bytes_open {l : List Int} (h : Bytes l) : Bytes (openL l) := by
  unfold openL
  split
  · exact fun y hy => h y (List.mem_of_mem_take hy)
  · exact fun y hy => absurd hy (by simp)
theorem bytes_at {l : List Int} (h : Bytes l) (i : Nat) : 0 ≤ at_ l i ∧ at_ l i ≤ 255 := by
  unfold at_
  rw [List.getD_eq_getElem?_getD]
  cases hi : l[i]? with
  | none => simp
  | some y => exact h y (List.mem_of_getElem? hi)
theorem R_at {W : World} {base : Nat} {ok : Nat → Prop} {v : Value} {xs : List Int} (h : Kd.R (Kd.int .u8) 5 W base ok v xs) (h0 : 0 < xs.length) :
    ∃ g c, v = .slice (some ⟨g, 0, none⟩) xs.length c ∧ xs.length ≤ c ∧ base ≤ g ∧ g < W.heap.size ∧ ∀ i, i < xs.length → W.cell? ⟨g, i, none⟩ = some (.int .u8 (at_ xs i)) := by
  obtain ⟨A, c, rfl, hc, hC⟩ := Kd.R_reads h
  obtain ⟨ad, rfl, hcell⟩ := hC.2.2 h0
  obtain ⟨g, rfl⟩ := Kd.R_head h
  refine ⟨g, c, rfl, hc, Kd.R_base h g rfl, Kd.R_lt h g rfl, fun i hi => ?_⟩
  obtain ⟨cs, hl, hK, hu⟩ := hcell i xs[i] (List.getElem?_eq_getElem hi)
  have hK' : cs = [.int .u8 xs[i]] := hK
  subst hK'
  have h2 := hu 0 _ rfl
  rw [add_plain] at h2
  have e : at_ xs i = xs[i] := by unfold at_; rw [List.getD_eq_getElem?_getD, List.getElem?_eq_getElem hi]; rfl
  rw [e]
  have e2 : i * (Kd.int .u8).sz + 0 = i := by show i * 1 + 0 = i; omega
  rw [e2] at h2
  exact h2
theorem ErrP.only {W W' : World} {g : Nat} (hO : Only g W W') (hb : ∃ cs t, W.heap[g]? = some (.cells cs t (0, 0)) ∧ t ≠ 125) {c : Int} : ∀ {p : List ByteArray} {v : Value}, ErrP W c p v → ErrP W' c p v
  | [], _, hv => hv
  | _ :: _, _, ⟨k, v', e, hg, hv⟩ => ⟨k, v', e, heap_only hO (fun hk => by
      obtain ⟨cs, t, hb, ht⟩ := hb
      rw [hk] at hg; rw [hb] at hg; injection hg with hg; injection hg with _ hg; exact absurd hg ht) hg, ErrP.only hO hb hv⟩
def set3 (w : World) (b : Nat) (a0 a1 a2 : Value) : World := ((w.setCell ⟨b, 0, none⟩ a0).setCell ⟨b, 1, none⟩ a1).setCell ⟨b, 2, none⟩ a2
theorem set3_heap {w : World} {b t : Nat} {c0 c1 c2 : Value} (a0 a1 a2 : Value) (h : w.heap[b]? = some (.cells #[c0, c1, c2] t (0, 0))) : (set3 w b a0 a1 a2).heap[b]? = some (.cells #[a0, a1, a2] t (0, 0)) := by
  have := blk_set (blk_set (blk_set h 0 a0) 1 a1) 2 a2
  simpa [set3] using this
theorem set3_far {w : World} {b b' k : Nat} {v : Value} (a0 a1 a2 : Value) (hne : b ≠ b') (h : w.cell? ⟨b', k, none⟩ = some v) : (((w.setCell ⟨b, 0, none⟩ a0).setCell ⟨b, 1, none⟩ a1).setCell ⟨b, 2, none⟩ a2).drew.cell? ⟨b', k, none⟩ = some v := by
  rw [World.cell?_drew, World.cell?_setCell_far _ _ _ _ hne, World.cell?_setCell_far _ _ _ _ hne, World.cell?_setCell_far _ _ _ _ hne]; exact h
theorem set3_only (w : World) (b : Nat) (a0 a1 a2 : Value) : Only b w (set3 w b a0 a1 a2) := ((set_only _ _ _ _).trans (set_only _ _ _ _)).trans (set_only _ _ _ _)
set_option maxHeartbeats 16000000 in
set_option maxRecDepth 100000 in
theorem Decode_calls (A : Option Addr) (c : Nat) (l : List Int) (w : World) (hC : Kd.C (Kd.int .u8) w A l.length l) (hc : l.length ≤ c) (hl : l.length ≤ 140737488351232) (hb : Bytes l) :
    Calls Tryd.prog 46 #[.slice A l.length c] w fun e w' => ∃ v e0, e = .returned (.tuple #[.agg #[.int .i64 (decC l), .int .i64 (decQ l), v], e0]) ∧ ErrV w' (decE l) e0 ∧ (∃ A' c', v = .slice A' (decD l).length c' ∧ (decD l).length ≤ c' ∧ Kd.C (Kd.int .u8) w' A' (decD l).length (decD l)) ∧ Below w.heap.size w w' := by
  have B0 : Aside0 (Below w.heap.size w (w.alloc (.cells #[.int .i64 0, .int .i64 0, .slice none 0 0] 80))) := balloc ⟨Below.refl _ _⟩ _
  have HX0 := Aside0.mk (heap_new w (.cells #[.int .i64 0, .int .i64 0, .slice none 0 0] 80))
  have HC := Aside0.mk hC
  have HCC := Aside0.mk hc
  have HN := Aside0.mk hl
  have HBX := Aside0.mk (bytes_open hb)
  clear hC hc hb
  have HL := Aside0.mk (show openL l = openL l from rfl)
  cases hok : openOk l with
  | false =>
    have HE := Aside0.mk (show decE l = 3 by unfold decE; rw [if_pos hok])
    have HD := Aside0.mk (show decC l = 0 ∧ decQ l = 0 ∧ decD l = [] by unfold decC decQ decD; rw [HE.out]; exact ⟨rfl, rfl, rfl⟩)
    have HOK := Aside0.mk hok
    clear hok
    go_enter Tryd.func46, Tryd.ntmps46
    go_wp2_with fail
    have hA := Open_calls A c l _ (Kd.C_below HC.out B0.out) HCC.out hl
    rw [HOK.out] at hA
    refine hA.mono ?_
    clear hA
    rintro e w2 ⟨v2, rfl, hR, hb⟩
    obtain ⟨A2, c2, rfl, -, -⟩ := Kd.R_reads hR
    generalize (openL l).length = n2
    have B2 := Aside0.mk (below_thenB B0.out hb B0.out.size)
    have HX2 := Aside0.mk (heap_below ⟨hb⟩ HX0.out)
    clear hb hR
    go_wp2_with fail
    refine (new_err 3 sPlace _ (by decide)).mono ?_
    rintro e w3 ⟨v3, rfl, hE, hb⟩
    have B3 := Aside0.mk (below_thenB B2.out hb B2.out.size)
    have HX3 := heap_below ⟨hb⟩ HX2.out
    have hE3 := Aside0.mk hE
    have k0 : World.cell? w3 ⟨w.heap.size, 0, none⟩ = some (.int .i64 0) := cell_of_heap HX3 0
    have k1 : World.cell? w3 ⟨w.heap.size, 1, none⟩ = some (.int .i64 0) := cell_of_heap HX3 1
    have k2 : World.cell? w3 ⟨w.heap.size, 2, none⟩ = some (.slice none 0 0) := cell_of_heap HX3 2
    have f0 := frozen_of_heap HX3 0
    have f1 := frozen_of_heap HX3 1
    have f2 := frozen_of_heap HX3 2
    have HX4 := Aside0.mk HX3
    obtain ⟨ty, x, rfl⟩ := hE.iface
    clear hb hE HX3
    go_wp2_with fail
    have hO := set3_only w3 w.heap.size (.int .i64 0) (.int .i64 0) (.slice none 0 0)
    have hH := set3_heap (.int .i64 0) (.int .i64 0) (.slice none 0 0) HX4.out
    unfold set3 at hO hH
    generalize ((w3.setCell ⟨w.heap.size, 0, none⟩ (.int .i64 0)).setCell ⟨w.heap.size, 1, none⟩ (.int .i64 0)).setCell ⟨w.heap.size, 2, none⟩ (.slice none 0 0) = w9 at hO hH ⊢
    have r0 : World.cell? w9 ⟨w.heap.size, 0, none⟩ = some (.int .i64 0) := cell_of_heap hH 0
    have r1 : World.cell? w9 ⟨w.heap.size, 1, none⟩ = some (.int .i64 0) := cell_of_heap hH 1
    have r2 : World.cell? w9 ⟨w.heap.size, 2, none⟩ = some (.slice none 0 0) := cell_of_heap hH 2
    have hP := hE3.out.only hO ⟨_, _, HX4.out, by decide⟩
    refine bodyPost_ret (v := .tuple #[.agg #[.int .i64 0, .int .i64 0, .slice none 0 0], .iface ty x]) (by simp [results, Tryd.results46, go_sem, r0, r1, r2]) rfl ?_
    rw [HD.out.1, HD.out.2.1, HD.out.2.2, HE.out]
    exact ⟨_, _, rfl, .inr ⟨by decide, hP⟩, ⟨none, 0, rfl, Nat.le_refl _, Kd.C_nil _ _⟩, (bonly B3 hO (Nat.le_refl _)).out⟩
  | true =>
    have HOK := Aside0.mk hok
    clear hok
    obtain ⟨x, hx⟩ : ∃ x, x = openL l := ⟨_, rfl⟩
    have HX := Aside0.mk hx
    have hbx := HBX.out
    rw [← hx] at hbx
    have hxl : x.length ≤ l.length := by rw [hx]; unfold openL; split <;> simp <;> omega
    have HXB := Aside0.mk hbx
    have b0 := bytes_at hbx 0
    have b1 := bytes_at hbx 1
    have b2 := bytes_at hbx 2
    clear hx hbx
    have pre : ∀ (Q : Ending → World → Prop), (∀ e w2, (∃ v2, e = .returned (.tuple #[v2, .bool true]) ∧ Kd.R (Kd.int .u8) 5 w2 (w.alloc (.cells #[.int .i64 0, .int .i64 0, .slice none 0 0] 80)).heap.size (fun _ => True) v2 x ∧ Below (w.alloc (.cells #[.int .i64 0, .int .i64 0, .slice none 0 0] 80)).heap.size (w.alloc (.cells #[.int .i64 0, .int .i64 0, .slice none 0 0] 80)) w2) → Q e w2) → Calls Tryd.prog 67 #[.slice A l.length c] (w.alloc (.cells #[.int .i64 0, .int .i64 0, .slice none 0 0] 80)) Q := by
      intro Q hQ
      have hA := Open_calls A c l _ (Kd.C_below HC.out B0.out) HCC.out hl
      rw [HOK.out, ← HX.out] at hA
      exact hA.mono hQ
    have PRE := Aside0.mk pre
    clear pre
    by_cases hbad : formBad x
    · have HE := Aside0.mk (show decE l = 2 by unfold decE; rw [if_neg (by rw [HOK.out]; decide), ← HX.out, if_pos hbad])
      have HD := Aside0.mk (show decC l = 0 ∧ decQ l = 0 ∧ decD l = [] by unfold decC decQ decD; rw [HE.out]; exact ⟨rfl, rfl, rfl⟩)
      have k : decide ((x.length : Int) < 3) = true ∨ (decide ((x.length : Int) < 3) = false ∧ decide (15 < at_ x 0) = true) ∨ (decide ((x.length : Int) < 3) = false ∧ decide (15 < at_ x 0) = false ∧ decide (16 < at_ x 2) = true) ∨ (decide ((x.length : Int) < 3) = false ∧ decide (15 < at_ x 0) = false ∧ decide (16 < at_ x 2) = false ∧ ((x.length : Int) - 3 != at_ x 2) = true) := by
        unfold formBad at hbad
        by_cases h1 : (x.length : Int) < 3
        · exact .inl (decide_eq_true h1)
        · by_cases h2 : 15 < at_ x 0
          · exact .inr (.inl ⟨decide_eq_false h1, decide_eq_true h2⟩)
          · by_cases h3 : 16 < at_ x 2
            · exact .inr (.inr (.inl ⟨decide_eq_false h1, decide_eq_false h2, decide_eq_true h3⟩))
            · exact .inr (.inr (.inr ⟨decide_eq_false h1, decide_eq_false h2, decide_eq_false h3, by
                rcases hbad with h | h | h | h
                · omega
                · exact absurd h h2
                · exact absurd h h3
                · simpa using h⟩))
      have HW := Aside0.mk (show wrap64 ((x.length : Int) - 3) = x.length - 3 ∧ wrap64 (at_ x 2) = at_ x 2 by constructor <;> (unfold wrap64; omega))
      clear hbad b0 b1 b2
      rcases k with k0 | ⟨k0, k1⟩ | ⟨k0, k1, k2⟩ | ⟨k0, k1, k2, k3⟩
      · go_enter Tryd.func46, Tryd.ntmps46
        go_wp2_with fail
        refine PRE.out _ ?_
        rintro e w2 ⟨v2, rfl, hR, hb⟩
        have B2 := Aside0.mk (below_thenB B0.out hb B0.out.size)
        have HX2 := Aside0.mk (heap_below ⟨hb⟩ HX0.out)
        obtain ⟨A2, c2, rfl, -, -⟩ := Kd.R_reads hR
        clear hb hR
        have hw := HW.out.1
        have hw2 := HW.out.2
        go_wp2_with fail
        refine (new_err 2 sPlace _ (by decide)).mono ?_
        rintro e w3 ⟨v3, rfl, hE, hb⟩
        have B3 := Aside0.mk (below_thenB B2.out hb B2.out.size)
        have HX3 := heap_below ⟨hb⟩ HX2.out
        have hE3 := Aside0.mk hE
        have z0 : World.cell? w3 ⟨w.heap.size, 0, none⟩ = some (.int .i64 0) := cell_of_heap HX3 0
        have z1 : World.cell? w3 ⟨w.heap.size, 1, none⟩ = some (.int .i64 0) := cell_of_heap HX3 1
        have z2 : World.cell? w3 ⟨w.heap.size, 2, none⟩ = some (.slice none 0 0) := cell_of_heap HX3 2
        have f0 := frozen_of_heap HX3 0
        have f1 := frozen_of_heap HX3 1
        have f2 := frozen_of_heap HX3 2
        have HX4 := Aside0.mk HX3
        obtain ⟨ty, y, rfl⟩ := hE.iface
        clear hb hE HX3
        go_wp2_with fail
        have hO := set3_only w3 w.heap.size (.int .i64 0) (.int .i64 0) (.slice none 0 0)
        have hH := set3_heap (.int .i64 0) (.int .i64 0) (.slice none 0 0) HX4.out
        unfold set3 at hO hH
        generalize ((w3.setCell ⟨w.heap.size, 0, none⟩ (.int .i64 0)).setCell ⟨w.heap.size, 1, none⟩ (.int .i64 0)).setCell ⟨w.heap.size, 2, none⟩ (.slice none 0 0) = w9 at hO hH ⊢
        have r0 : World.cell? w9 ⟨w.heap.size, 0, none⟩ = some (.int .i64 0) := cell_of_heap hH 0
        have r1 : World.cell? w9 ⟨w.heap.size, 1, none⟩ = some (.int .i64 0) := cell_of_heap hH 1
        have r2 : World.cell? w9 ⟨w.heap.size, 2, none⟩ = some (.slice none 0 0) := cell_of_heap hH 2
        have hP := hE3.out.only hO ⟨_, _, HX4.out, by decide⟩
        refine bodyPost_ret (v := .tuple #[.agg #[.int .i64 0, .int .i64 0, .slice none 0 0], .iface ty y]) (by simp [results, Tryd.results46, go_sem, r0, r1, r2]) rfl ?_
        rw [HD.out.1, HD.out.2.1, HD.out.2.2, HE.out]
        exact ⟨_, _, rfl, .inr ⟨by decide, hP⟩, ⟨none, 0, rfl, Nat.le_refl _, Kd.C_nil _ _⟩, (bonly B3 hO (Nat.le_refl _)).out⟩
      · go_enter Tryd.func46, Tryd.ntmps46
        go_wp2_with fail
        refine PRE.out _ ?_
        rintro e w2 ⟨v2, rfl, hR, hb⟩
        have B2 := Aside0.mk (below_thenB B0.out hb B0.out.size)
        have HX2 := Aside0.mk (heap_below ⟨hb⟩ HX0.out)
        have hlen : 2 < x.length := by have := of_decide_eq_false k0; omega
        obtain ⟨g2, c2, rfl, hc2, -, -, hcells⟩ := R_at hR (by omega)
        have y0 := hcells 0 (by omega)
        have y2 := hcells 2 hlen
        clear hcells
        have hl0 : 0 < x.length := by omega
        have hl2 : (2 : Int) < (x.length : Int) := by omega
        clear hb hR
        have hw := HW.out.1
        have hw2 := HW.out.2
        go_wp2_with fail
        refine (new_err 2 sPlace _ (by decide)).mono ?_
        rintro e w3 ⟨v3, rfl, hE, hb⟩
        have B3 := Aside0.mk (below_thenB B2.out hb B2.out.size)
        have HX3 := heap_below ⟨hb⟩ HX2.out
        have hE3 := Aside0.mk hE
        have z0 : World.cell? w3 ⟨w.heap.size, 0, none⟩ = some (.int .i64 0) := cell_of_heap HX3 0
        have z1 : World.cell? w3 ⟨w.heap.size, 1, none⟩ = some (.int .i64 0) := cell_of_heap HX3 1
        have z2 : World.cell? w3 ⟨w.heap.size, 2, none⟩ = some (.slice none 0 0) := cell_of_heap HX3 2
        have f0 := frozen_of_heap HX3 0
        have f1 := frozen_of_heap HX3 1
        have f2 := frozen_of_heap HX3 2
        have HX4 := Aside0.mk HX3
        obtain ⟨ty, y, rfl⟩ := hE.iface
        clear hb hE HX3
        go_wp2_with fail
        have hO := set3_only w3 w.heap.size (.int .i64 0) (.int .i64 0) (.slice none 0 0)
        have hH := set3_heap (.int .i64 0) (.int .i64 0) (.slice none 0 0) HX4.out
        unfold set3 at hO hH
        generalize ((w3.setCell ⟨w.heap.size, 0, none⟩ (.int .i64 0)).setCell ⟨w.heap.size, 1, none⟩ (.int .i64 0)).setCell ⟨w.heap.size, 2, none⟩ (.slice none 0 0) = w9 at hO hH ⊢
        have r0 : World.cell? w9 ⟨w.heap.size, 0, none⟩ = some (.int .i64 0) := cell_of_heap hH 0
        have r1 : World.cell? w9 ⟨w.heap.size, 1, none⟩ = some (.int .i64 0) := cell_of_heap hH 1
        have r2 : World.cell? w9 ⟨w.heap.size, 2, none⟩ = some (.slice none 0 0) := cell_of_heap hH 2
        have hP := hE3.out.only hO ⟨_, _, HX4.out, by decide⟩
        refine bodyPost_ret (v := .tuple #[.agg #[.int .i64 0, .int .i64 0, .slice none 0 0], .iface ty y]) (by simp [results, Tryd.results46, go_sem, r0, r1, r2]) rfl ?_
        rw [HD.out.1, HD.out.2.1, HD.out.2.2, HE.out]
        exact ⟨_, _, rfl, .inr ⟨by decide, hP⟩, ⟨none, 0, rfl, Nat.le_refl _, Kd.C_nil _ _⟩, (bonly B3 hO (Nat.le_refl _)).out⟩
      · go_enter Tryd.func46, Tryd.ntmps46
        go_wp2_with fail
        refine PRE.out _ ?_
        rintro e w2 ⟨v2, rfl, hR, hb⟩
        have B2 := Aside0.mk (below_thenB B0.out hb B0.out.size)
        have HX2 := Aside0.mk (heap_below ⟨hb⟩ HX0.out)
        have hlen : 2 < x.length := by have := of_decide_eq_false k0; omega
        obtain ⟨g2, c2, rfl, hc2, -, -, hcells⟩ := R_at hR (by omega)
        have y0 := hcells 0 (by omega)
        have y2 := hcells 2 hlen
        clear hcells
        have hl0 : 0 < x.length := by omega
        have hl2 : (2 : Int) < (x.length : Int) := by omega
        clear hb hR
        have hw := HW.out.1
        have hw2 := HW.out.2
        go_wp2_with fail
        refine (new_err 2 sPlace _ (by decide)).mono ?_
        rintro e w3 ⟨v3, rfl, hE, hb⟩
        have B3 := Aside0.mk (below_thenB B2.out hb B2.out.size)
        have HX3 := heap_below ⟨hb⟩ HX2.out
        have hE3 := Aside0.mk hE
        have z0 : World.cell? w3 ⟨w.heap.size, 0, none⟩ = some (.int .i64 0) := cell_of_heap HX3 0
        have z1 : World.cell? w3 ⟨w.heap.size, 1, none⟩ = some (.int .i64 0) := cell_of_heap HX3 1
        have z2 : World.cell? w3 ⟨w.heap.size, 2, none⟩ = some (.slice none 0 0) := cell_of_heap HX3 2
        have f0 := frozen_of_heap HX3 0
        have f1 := frozen_of_heap HX3 1
        have f2 := frozen_of_heap HX3 2
        have HX4 := Aside0.mk HX3
        obtain ⟨ty, y, rfl⟩ := hE.iface
        clear hb hE HX3
        go_wp2_with fail
        have hO := set3_only w3 w.heap.size (.int .i64 0) (.int .i64 0) (.slice none 0 0)
        have hH := set3_heap (.int .i64 0) (.int .i64 0) (.slice none 0 0) HX4.out
        unfold set3 at hO hH
        generalize ((w3.setCell ⟨w.heap.size, 0, none⟩ (.int .i64 0)).setCell ⟨w.heap.size, 1, none⟩ (.int .i64 0)).setCell ⟨w.heap.size, 2, none⟩ (.slice none 0 0) = w9 at hO hH ⊢
        have r0 : World.cell? w9 ⟨w.heap.size, 0, none⟩ = some (.int .i64 0) := cell_of_heap hH 0
        have r1 : World.cell? w9 ⟨w.heap.size, 1, none⟩ = some (.int .i64 0) := cell_of_heap hH 1
        have r2 : World.cell? w9 ⟨w.heap.size, 2, none⟩ = some (.slice none 0 0) := cell_of_heap hH 2
        have hP := hE3.out.only hO ⟨_, _, HX4.out, by decide⟩
        refine bodyPost_ret (v := .tuple #[.agg #[.int .i64 0, .int .i64 0, .slice none 0 0], .iface ty y]) (by simp [results, Tryd.results46, go_sem, r0, r1, r2]) rfl ?_
        rw [HD.out.1, HD.out.2.1, HD.out.2.2, HE.out]
        exact ⟨_, _, rfl, .inr ⟨by decide, hP⟩, ⟨none, 0, rfl, Nat.le_refl _, Kd.C_nil _ _⟩, (bonly B3 hO (Nat.le_refl _)).out⟩
      · go_enter Tryd.func46, Tryd.ntmps46
        go_wp2_with fail
        refine PRE.out _ ?_
        rintro e w2 ⟨v2, rfl, hR, hb⟩
        have B2 := Aside0.mk (below_thenB B0.out hb B0.out.size)
        have HX2 := Aside0.mk (heap_below ⟨hb⟩ HX0.out)
        have hlen : 2 < x.length := by have := of_decide_eq_false k0; omega
        obtain ⟨g2, c2, rfl, hc2, -, -, hcells⟩ := R_at hR (by omega)
        have y0 := hcells 0 (by omega)
        have y2 := hcells 2 hlen
        clear hcells
        have hl0 : 0 < x.length := by omega
        have hl2 : (2 : Int) < (x.length : Int) := by omega
        clear hb hR
        have hw := HW.out.1
        have hw2 := HW.out.2
        go_wp2_with fail
        refine (new_err 2 sPlace _ (by decide)).mono ?_
        rintro e w3 ⟨v3, rfl, hE, hb⟩
        have B3 := Aside0.mk (below_thenB B2.out hb B2.out.size)
        have HX3 := heap_below ⟨hb⟩ HX2.out
        have hE3 := Aside0.mk hE
        have z0 : World.cell? w3 ⟨w.heap.size, 0, none⟩ = some (.int .i64 0) := cell_of_heap HX3 0
        have z1 : World.cell? w3 ⟨w.heap.size, 1, none⟩ = some (.int .i64 0) := cell_of_heap HX3 1
        have z2 : World.cell? w3 ⟨w.heap.size, 2, none⟩ = some (.slice none 0 0) := cell_of_heap HX3 2
        have f0 := frozen_of_heap HX3 0
        have f1 := frozen_of_heap HX3 1
        have f2 := frozen_of_heap HX3 2
        have HX4 := Aside0.mk HX3
        obtain ⟨ty, y, rfl⟩ := hE.iface
        clear hb hE HX3
        go_wp2_with fail
        have hO := set3_only w3 w.heap.size (.int .i64 0) (.int .i64 0) (.slice none 0 0)
        have hH := set3_heap (.int .i64 0) (.int .i64 0) (.slice none 0 0) HX4.out
        unfold set3 at hO hH
        generalize ((w3.setCell ⟨w.heap.size, 0, none⟩ (.int .i64 0)).setCell ⟨w.heap.size, 1, none⟩ (.int .i64 0)).setCell ⟨w.heap.size, 2, none⟩ (.slice none 0 0) = w9 at hO hH ⊢
        have r0 : World.cell? w9 ⟨w.heap.size, 0, none⟩ = some (.int .i64 0) := cell_of_heap hH 0
        have r1 : World.cell? w9 ⟨w.heap.size, 1, none⟩ = some (.int .i64 0) := cell_of_heap hH 1
        have r2 : World.cell? w9 ⟨w.heap.size, 2, none⟩ = some (.slice none 0 0) := cell_of_heap hH 2
        have hP := hE3.out.only hO ⟨_, _, HX4.out, by decide⟩
        refine bodyPost_ret (v := .tuple #[.agg #[.int .i64 0, .int .i64 0, .slice none 0 0], .iface ty y]) (by simp [results, Tryd.results46, go_sem, r0, r1, r2]) rfl ?_
        rw [HD.out.1, HD.out.2.1, HD.out.2.2, HE.out]
        exact ⟨_, _, rfl, .inr ⟨by decide, hP⟩, ⟨none, 0, rfl, Nat.le_refl _, Kd.C_nil _ _⟩, (bonly B3 hO (Nat.le_refl _)).out⟩
    · have hg : 3 ≤ x.length ∧ at_ x 0 ≤ 15 ∧ at_ x 2 ≤ 16 ∧ (x.length : Int) - 3 = at_ x 2 := by unfold formBad at hbad; omega
      have HE := Aside0.mk (show decE l = 0 by unfold decE; rw [if_neg (by rw [HOK.out]; decide), ← HX.out, if_neg hbad])
      have HD := Aside0.mk (show decC l = at_ x 0 ∧ decQ l = at_ x 1 ∧ decD l = x.drop 3 by unfold decC decQ decD; rw [HE.out, ← HX.out]; exact ⟨rfl, rfl, rfl⟩)
      have k0 : decide ((x.length : Int) < 3) = false := decide_eq_false (by omega)
      have k1 : decide (15 < at_ x 0) = false := decide_eq_false (by omega)
      have k2 : decide (16 < at_ x 2) = false := decide_eq_false (by omega)
      have k3 : ((x.length : Int) - 3 != at_ x 2) = false := by simpa using hg.2.2.2
      have HW := Aside0.mk (show wrap64 ((x.length : Int) - 3) = x.length - 3 ∧ wrap64 (at_ x 2) = at_ x 2 by constructor <;> (unfold wrap64; omega))
      have HV := Aside0.mk (show IntKind.i64.wrap (at_ x 0) = at_ x 0 ∧ IntKind.i64.wrap (at_ x 1) = at_ x 1 by constructor <;> (rw [i64_w]; unfold wrap64; omega))
      have h3 : 3 ≤ x.length := hg.1
      clear hbad b0 b1 b2 hg
      go_enter Tryd.func46, Tryd.ntmps46
      go_wp2_with fail
      refine PRE.out _ ?_
      rintro e w2 ⟨v2, rfl, hR, hb⟩
      have B2 := Aside0.mk (below_thenB B0.out hb B0.out.size)
      have HX2 := Aside0.mk (heap_below ⟨hb⟩ HX0.out)
      have R2 := Aside0.mk (R_from hR)
      obtain ⟨g2, c2, rfl, hc2, hg2, hg2b, hcells⟩ := R_at hR (by omega)
      have hne : w.heap.size ≠ g2 := by have h1 := hg2; simp at h1; omega
      have y0 := hcells 0 (by omega)
      have y1 := hcells 1 (by omega)
      have y2 := hcells 2 (by omega)
      have hl0 : 0 < x.length := by omega
      have hl1 : (1 : Int) < (x.length : Int) := by omega
      have hl2 : (2 : Int) < (x.length : Int) := by omega
      obtain ⟨i0, hi0, _, hsz, _⟩ := info_parts info5
      obtain ⟨A', hcut, hA, hC3⟩ := print_drop_of (P := Tryd.prog) (Value.int .u8) 0 44 5 .i64 Tryd.underlying44 hi0 hsz (some ⟨g2, 0, none⟩) c2 x 3 (by omega) (by omega) hc2
      have HA := Aside0.mk hA
      have HC3 := Aside0.mk hC3
      have HCUT := Aside0.mk hcut
      clear hb hR hcells hg2 hg2b hi0 hsz hA hC3 hcut hc2
      have hw := HW.out.1
      have hw2 := HW.out.2
      go_upto_region 6 with fail
      have hcut := HCUT.out
      have z0 : World.cell? w2 ⟨w.heap.size, 0, none⟩ = some (.int .i64 0) := cell_of_heap HX2.out 0
      have z1 : World.cell? w2 ⟨w.heap.size, 1, none⟩ = some (.int .i64 0) := cell_of_heap HX2.out 1
      have z2 : World.cell? w2 ⟨w.heap.size, 2, none⟩ = some (.slice none 0 0) := cell_of_heap HX2.out 2
      have f0 := frozen_of_heap HX2.out 0
      have f1 := frozen_of_heap HX2.out 1
      have f2 := frozen_of_heap HX2.out 2
      refine wp_region_held_drew (S := (fun W => W.cell? ⟨g2, 0, none⟩ = some (.int .u8 (at_ x 0)) ∧ W.cell? ⟨g2, 1, none⟩ = some (.int .u8 (at_ x 1)))) (by kernel_rfl) ?_ (fun hHeld => ?_)
      · exact ⟨y0, y1⟩
      refine wpAnyH_take (i := 0) (oi := { dst := some 44, op := Go.Op.move (Go.Operand.tmp 4), type := 44, pos := "frame.go:39", after := #[], guard := none }) (v := ?vz0) rfl (by kernel_rfl) (by kernel_rfl) (by kernel_rfl) (fun _ _ _ h => h) (Or.inl ⟨by rfl, ?yz0⟩) (by assumption) ?rz0
      case yz0 => ((intro w hSw; (try dsimp only at hSw); go_simp) <;> with_reducible rfl)
      try simp only [put_]
      refine wpAnyH_take (i := 1) (oi := { dst := some 45, op := Go.Op.indexAddr 44 (Go.Operand.tmp 44) (Go.Operand.const (Go.Value.int Go.IntKind.i64 0)), type := 0, pos := "frame.go:39", after := #[{ on := 0, ground := Go.Ground.data }], guard := none }) (v := ?vz1) rfl (by kernel_rfl) (by kernel_rfl) (by kernel_rfl) (fun _ _ _ h => h) (Or.inl ⟨by rfl, ?yz1⟩) (by assumption) ?rz1
      case yz1 => ((intro w hSw; (try dsimp only at hSw); go_simp) <;> with_reducible rfl)
      try simp only [put_]
      refine wpAnyH_take (i := 2) (oi := { dst := some 46, op := Go.Op.load 5 (Go.Operand.tmp 45), type := 5, pos := "frame.go:39", after := #[{ on := 1, ground := Go.Ground.data }], guard := none }) (v := ?vz2) rfl (by kernel_rfl) (by kernel_rfl) (by kernel_rfl) (fun _ _ _ h => h) (Or.inl ⟨by rfl, ?yz2⟩) (by assumption) ?rz2
      case yz2 => ((intro w hSw; (try dsimp only at hSw); go_simp) <;> with_reducible rfl)
      try simp only [put_]
      refine wpAnyH_take (i := 3) (oi := { dst := some 47, op := Go.Op.convert 5 3 (Go.Operand.tmp 46), type := 3, pos := "frame.go:39", after := #[{ on := 2, ground := Go.Ground.data }], guard := none }) (v := ?vz3) rfl (by kernel_rfl) (by kernel_rfl) (by kernel_rfl) (fun _ _ _ h => h) (Or.inl ⟨by rfl, ?yz3⟩) (by assumption) ?rz3
      case yz3 => ((intro w hSw; (try dsimp only at hSw); go_simp) <;> with_reducible rfl)
      try simp only [put_]
      refine wpAnyH_take (i := 4) (oi := { dst := some 48, op := Go.Op.move (Go.Operand.tmp 4), type := 44, pos := "frame.go:39", after := #[], guard := none }) (v := ?vz4) rfl (by kernel_rfl) (by kernel_rfl) (by kernel_rfl) (fun _ _ _ h => h) (Or.inl ⟨by rfl, ?yz4⟩) (by assumption) ?rz4
      case yz4 => ((intro w hSw; (try dsimp only at hSw); go_simp) <;> with_reducible rfl)
      try simp only [put_]
      refine wpAnyH_take (i := 5) (oi := { dst := some 49, op := Go.Op.indexAddr 44 (Go.Operand.tmp 48) (Go.Operand.const (Go.Value.int Go.IntKind.i64 1)), type := 0, pos := "frame.go:39", after := #[{ on := 4, ground := Go.Ground.data }], guard := none }) (v := ?vz5) rfl (by kernel_rfl) (by kernel_rfl) (by kernel_rfl) (fun _ _ _ h => h) (Or.inl ⟨by rfl, ?yz5⟩) (by assumption) ?rz5
      case yz5 => ((intro w hSw; (try dsimp only at hSw); go_simp) <;> with_reducible rfl)
      try simp only [put_]
      refine wpAnyH_take (i := 6) (oi := { dst := some 50, op := Go.Op.load 5 (Go.Operand.tmp 49), type := 5, pos := "frame.go:39", after := #[{ on := 5, ground := Go.Ground.data }], guard := none }) (v := ?vz6) rfl (by kernel_rfl) (by kernel_rfl) (by kernel_rfl) (fun _ _ _ h => h) (Or.inl ⟨by rfl, ?yz6⟩) (by assumption) ?rz6
      case yz6 => ((intro w hSw; (try dsimp only at hSw); go_simp) <;> with_reducible rfl)
      try simp only [put_]
      refine wpAnyH_take (i := 7) (oi := { dst := some 51, op := Go.Op.convert 5 3 (Go.Operand.tmp 50), type := 3, pos := "frame.go:39", after := #[{ on := 6, ground := Go.Ground.data }], guard := none }) (v := ?vz7) rfl (by kernel_rfl) (by kernel_rfl) (by kernel_rfl) (fun _ _ _ h => h) (Or.inl ⟨by rfl, ?yz7⟩) (by assumption) ?rz7
      case yz7 => ((intro w hSw; (try dsimp only at hSw); go_simp) <;> with_reducible rfl)
      try simp only [put_]
      refine wpAnyH_take (i := 8) (oi := { dst := some 52, op := Go.Op.move (Go.Operand.tmp 4), type := 44, pos := "frame.go:39", after := #[], guard := none }) (v := ?vz8) rfl (by kernel_rfl) (by kernel_rfl) (by kernel_rfl) (fun _ _ _ h => h) (Or.inl ⟨by rfl, ?yz8⟩) (by assumption) ?rz8
      case yz8 => ((intro w hSw; (try dsimp only at hSw); go_simp) <;> with_reducible rfl)
      try simp only [put_]
      refine wpAnyH_take (i := 9) (oi := { dst := some 53, op := Go.Op.slice 44 (Go.Operand.tmp 52) (some (Go.Operand.const (Go.Value.int Go.IntKind.i64 3))) none none, type := 44, pos := "frame.go:39", after := #[{ on := 8, ground := Go.Ground.data }], guard := none }) (v := ?vz9) rfl (by kernel_rfl) (by kernel_rfl) (by kernel_rfl) (fun _ _ _ h => h) (Or.inl ⟨by rfl, ?yz9⟩) (by assumption) ?rz9
      case yz9 => ((intro w hSw; (try dsimp only at hSw); go_simp) <;> with_reducible rfl)
      try simp only [put_]
      refine wpAnyH_take (i := 10) (oi := { dst := some 54, op := Go.Op.build 80 #[(0, Go.Operand.tmp 47), (1, Go.Operand.tmp 51), (2, Go.Operand.tmp 53)], type := 80, pos := "frame.go:39", after := #[{ on := 3, ground := Go.Ground.data }, { on := 7, ground := Go.Ground.data }, { on := 9, ground := Go.Ground.data }], guard := none }) (v := ?vz10) rfl (by kernel_rfl) (by kernel_rfl) (by kernel_rfl) (fun _ _ _ h => h) (Or.inl ⟨by rfl, ?yz10⟩) (by assumption) ?rz10
      case yz10 => ((intro w hSw; (try dsimp only at hSw); go_simp) <;> with_reducible rfl)
      try simp only [put_]
      refine wpAnyH_ready (rs := [11]) (by kernel_rfl) (by simp) ?_
      refine AllReadyH.cons (o := { dst := none, op := Go.Op.store 80 (Go.Operand.tmp 2) (Go.Operand.tmp 54), type := 0, pos := "frame.go:39", after := #[{ on := 10, ground := Go.Ground.data }, { on := 0, ground := Go.Ground.phase }, { on := 1, ground := Go.Ground.phase }, { on := 2, ground := Go.Ground.phase }, { on := 3, ground := Go.Ground.phase }, { on := 4, ground := Go.Ground.phase }, { on := 5, ground := Go.Ground.phase }, { on := 6, ground := Go.Ground.phase }, { on := 7, ground := Go.Ground.phase }, { on := 8, ground := Go.Ground.phase }, { on := 9, ground := Go.Ground.phase }, { on := 10, ground := Go.Ground.phase }], guard := none }) rfl (fun K hK => ?kz11) AllReadyH.nil
      have z0d : World.cell? w2.drew ⟨w.heap.size, 0, none⟩ = some (.int .i64 0) := z0
      have z1d : World.cell? w2.drew ⟨w.heap.size, 1, none⟩ = some (.int .i64 0) := z1
      have z2d : World.cell? w2.drew ⟨w.heap.size, 2, none⟩ = some (.slice none 0 0) := z2
      have f0d : World.frozen? w2.drew ⟨w.heap.size, 0, none⟩ = false := f0
      have f1d : World.frozen? w2.drew ⟨w.heap.size, 1, none⟩ = false := f1
      have f2d : World.frozen? w2.drew ⟨w.heap.size, 2, none⟩ = false := f2
      go_simp
      refine hK.out _ _ ?_ (fun hHeld => ?_)
      · exact ⟨set3_far _ _ _ hne y0, set3_far _ _ _ hne y1⟩
      clear hK K
      try simp only [put_]
      refine wpAnyH_take (i := 12) (oi := { dst := some 3, op := Go.Op.assign (Go.Operand.const Go.Value.nilIface), type := 42, pos := "frame.go:39", after := #[{ on := 11, ground := Go.Ground.chain }, { on := 0, ground := Go.Ground.phase }, { on := 1, ground := Go.Ground.phase }, { on := 2, ground := Go.Ground.phase }, { on := 3, ground := Go.Ground.phase }, { on := 4, ground := Go.Ground.phase }, { on := 5, ground := Go.Ground.phase }, { on := 6, ground := Go.Ground.phase }, { on := 7, ground := Go.Ground.phase }, { on := 8, ground := Go.Ground.phase }, { on := 9, ground := Go.Ground.phase }, { on := 10, ground := Go.Ground.phase }, { on := 11, ground := Go.Ground.phase }], guard := none }) (v := ?vz12) rfl (by kernel_rfl) (by kernel_rfl) (by kernel_rfl) (fun _ _ _ h => h) (Or.inl ⟨by rfl, ?yz12⟩) (by assumption) ?rz12
      case yz12 => ((intro w hSw; (try dsimp only at hSw); go_simp) <;> with_reducible rfl)
      try simp only [put_]
      refine wpAnyH_done (by kernel_rfl) ?_ _
      go_wp2_with fail
      rw [HV.out.1, HV.out.2]
      have hO := (set3_only w2 w.heap.size (.int .i64 (at_ x 0)) (.int .i64 (at_ x 1)) (.slice A' (x.length - 3) (c2 - 3))).trans (drew_only _ _)
      have hH : (set3 w2 w.heap.size (.int .i64 (at_ x 0)) (.int .i64 (at_ x 1)) (.slice A' (x.length - 3) (c2 - 3))).drew.heap[w.heap.size]? = _ := set3_heap (.int .i64 (at_ x 0)) (.int .i64 (at_ x 1)) (.slice A' (x.length - 3) (c2 - 3)) HX2.out
      unfold set3 at hO hH
      generalize (((w2.setCell ⟨w.heap.size, 0, none⟩ (.int .i64 (at_ x 0))).setCell ⟨w.heap.size, 1, none⟩ (.int .i64 (at_ x 1))).setCell ⟨w.heap.size, 2, none⟩ (.slice A' (x.length - 3) (c2 - 3))).drew = w9 at hO hH ⊢
      have r0 : World.cell? w9 ⟨w.heap.size, 0, none⟩ = some (.int .i64 (at_ x 0)) := cell_of_heap hH 0
      have r1 : World.cell? w9 ⟨w.heap.size, 1, none⟩ = some (.int .i64 (at_ x 1)) := cell_of_heap hH 1
      have r2 : World.cell? w9 ⟨w.heap.size, 2, none⟩ = some (.slice A' (x.length - 3) (c2 - 3)) := cell_of_heap hH 2
      have R9 := R_only R2.out hO (fun k hk => by have h1 := hk; simp at h1; omega)
      obtain ⟨_, _, C9⟩ := Kd.R_reads' R9
      have CD : Kd.C (Kd.int .u8) w9 A' (x.drop 3).length (x.drop 3) := Kd.C_of_reads (h1 := fun _ => rfl) (HA.out w9 (Kd.reads_of_C C9))
      have hdl : (x.drop 3).length = x.length - 3 := by rw [List.length_drop]
      refine bodyPost_ret (v := .tuple #[.agg #[.int .i64 (at_ x 0), .int .i64 (at_ x 1), .slice A' (x.length - 3) (c2 - 3)], .nilIface]) (by simp [results, Tryd.results46, go_sem, r0, r1, r2]) rfl ?_
      rw [HD.out.1, HD.out.2.1, HD.out.2.2, HE.out]
      exact ⟨_, _, rfl, .inl ⟨rfl, rfl⟩, ⟨A', c2 - 3, by rw [hdl], by have := HC3.out; simpa using this, CD⟩, (bonly B2 hO (Nat.le_refl _)).out⟩
end Go.Proofs.YtfijlaahifeimaaDoor.PE
/- frame: the small case of the statements. -/
namespace Go.Proofs.YtfijlaahifeimaaDoor.PE
open Go.RowKit Go.Extern.Stop Go.Stop Go.Extern Go.Proofs.YtfijlaahifeimaaDoorW.PrintWords Go.Proofs.YtfijlaahifeimaaDoorW.PrintLast Go.Proofs.YtfijlaahifeimaaDoorW.PrintMore
set_option linter.unusedVariables false
set_option linter.unusedSimpArgs false
theorem C_lit (W : World) (xs : List Int) (hx : xs.length ≤ 1000) : Kd.C (Kd.int .u8) (W.alloc (.cells (xs.map (Value.int .u8)).toArray 5)) (some ⟨W.heap.size, 0, none⟩) xs.length xs := by
  refine ⟨rfl, by omega, fun _ => ⟨⟨W.heap.size, 0, none⟩, rfl, fun j p hj => ⟨[.int .u8 p], rfl, rfl, fun i u hu => ?_⟩⟩⟩
  match i with
  | 0 =>
    have hu : Value.int .u8 p = u := by simpa using hu
    subst hu
    have e : j * (Kd.int .u8).sz + 0 = j := by show j * 1 + 0 = j; omega
    rw [e, add_plain, cell_new]
    simp [hj]
  | i + 1 => simp at hu
def d1 : List Int := encL 1 2 [9]
def d2 : List Int := sealL [1, 2, 3]
theorem d2_eq : sealL [1, 2, 3] = d2 := rfl
theorem d1_eq : d1 = sealL [1, 2, 1, 9] := rfl
theorem d1_encB : encB 1 2 [9] = d1 := if_neg (by decide)
theorem d1_facts : d1.length = 6 ∧ decE d1 = 0 ∧ decC d1 = 1 ∧ decQ d1 = 2 ∧ decD d1 = [9] := by decide +kernel
theorem d2_facts : d2.length = 5 ∧ decE d2 = 2 ∧ decC d2 = 0 ∧ decQ d2 = 0 ∧ decD d2 = [] := by decide +kernel
theorem d3_facts : decE [1] = 3 ∧ decC [1] = 0 ∧ decQ [1] = 0 ∧ decD [1] = [] := by decide +kernel
theorem bytes_seal {l : List Int} (h : Bytes l) : Bytes (sealL l) := by
  intro y hy
  unfold sealL at hy
  have hn := num_lt (sumL l)
  rcases List.mem_append.1 hy with h1 | h1
  · exact h y h1
  · simp at h1
    rcases h1 with rfl | rfl <;> omega
theorem d1_bytes : Bytes d1 := bytes_seal (by intro y hy; simp at hy; omega)
theorem d2_bytes : Bytes d2 := bytes_seal (by intro y hy; simp at hy; omega)
end Go.Proofs.YtfijlaahifeimaaDoor.PE
/- frame: FrameMay's walk. -/
namespace Go.Proofs.YtfijlaahifeimaaDoor.PE
open Go.RowKit Go.Extern.Stop Go.Stop Go.Extern Go.Proofs.YtfijlaahifeimaaDoorW.PrintWords Go.Proofs.YtfijlaahifeimaaDoorW.PrintLast Go.Proofs.YtfijlaahifeimaaDoorW.PrintMore
set_option linter.unusedVariables false
set_option linter.unusedSimpArgs false
theorem sealL_len (l : List Int) : (sealL l).length = l.length + 2 := by simp [sealL]
theorem encL_len (ch sq : Int) (xs : List Int) : (encL ch sq xs).length = 5 + xs.length := by unfold encL; rw [sealL_len]; simp; omega
end Go.Proofs.YtfijlaahifeimaaDoor.PE
/- frame: FrameApart's walk. -/
namespace Go.Proofs.YtfijlaahifeimaaDoor.PE
open Go.RowKit Go.Extern.Stop Go.Stop Go.Extern Go.Proofs.YtfijlaahifeimaaDoorW.PrintWords Go.Proofs.YtfijlaahifeimaaDoorW.PrintLast Go.Proofs.YtfijlaahifeimaaDoorW.PrintMore
set_option linter.unusedVariables false
set_option linter.unusedSimpArgs false
theorem str_inj : ∀ {l m : List Int}, Bytes l → Bytes m → strOfNums l = strOfNums m → l = m := by
  intro l m hl hm h
  have h2 : l.map (fun n => UInt8.ofNat n.toNat) = m.map (fun n => UInt8.ofNat n.toNat) := by
    rw [← strOfNums_data, ← strOfNums_data, h]
  clear h
  induction l generalizing m with
  | nil => cases m with
    | nil => rfl
    | cons y m => simp at h2
  | cons x l ih => cases m with
    | nil => simp at h2
    | cons y m =>
      simp only [List.map_cons, List.cons.injEq] at h2
      have hx := hl x (by simp)
      have hy := hm y (by simp)
      have e : x = y := by
        have h3 := congrArg UInt8.toNat h2.1
        simp only [UInt8.toNat_ofNat'] at h3
        omega
      rw [e, ih (fun z hz => hl z (by simp [hz])) (fun z hz => hm z (by simp [hz])) h2.2]
theorem str_eq {l m : List Int} (hl : Bytes l) (hm : Bytes m) : ((strOfNums l).toList == (strOfNums m).toList) = decide (l = m) := by
  by_cases h : l = m
  · subst h; rw [decide_eq_true rfl]; simp
  · rw [decide_eq_false h]
    apply beq_eq_false_iff_ne.2
    intro h2
    apply h
    apply str_inj hl hm
    have h3 : (strOfNums l).data.toList = (strOfNums m).data.toList := by
      rw [Lib.strOfNums_toList, Lib.strOfNums_toList] at h2
      exact h2
    have h4 : (strOfNums l).data = (strOfNums m).data := Array.toList_inj.1 h3
    calc strOfNums l = ⟨(strOfNums l).data⟩ := rfl
      _ = ⟨(strOfNums m).data⟩ := by rw [h4]
      _ = strOfNums m := rfl
theorem bytes_enc {ch sq : Int} {xs : List Int} (h : Bytes xs) (ha : ¬ argF ch sq xs.length) : Bytes (encL ch sq xs) := by
  unfold argF at ha
  apply bytes_seal
  intro y hy
  simp at hy
  rcases hy with rfl | rfl | rfl | hy
  · omega
  · omega
  · omega
  · exact h y hy
theorem enc_inj {ch sq ch' sq' : Int} {xs xs' : List Int} (h : encL ch sq xs = encL ch' sq' xs') : ch = ch' ∧ sq = sq' ∧ xs = xs' := by
  have hl : (encL ch sq xs).length = (encL ch' sq' xs').length := by rw [h]
  rw [encL_len, encL_len] at hl
  unfold encL sealL at h
  have h2 := (List.append_inj h (by simp; omega)).1
  simp at h2
  exact ⟨h2.1, h2.2.1, h2.2.2.2⟩
end Go.Proofs.YtfijlaahifeimaaDoor.PE
