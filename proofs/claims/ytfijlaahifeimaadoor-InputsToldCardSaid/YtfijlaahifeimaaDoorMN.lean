/- Plain laws of what the sensor's functions compute: of what is no single byte, and of each byte. -/
import Derived.Test.YtfijlaahifeimaaDoorPSx3
import Derived.Test.YtfijlaahifeimaaDoorPSx4
import Derived.Test.YtfijlaahifeimaaDoorMB
import Derived.Test.YtfijlaahifeimaaDoorPSx11
import Derived.Test.YtfijlaahifeimaaDoorMD
import Derived.Test.YtfijlaahifeimaaDoorMG
import Derived.Test.YtfijlaahifeimaaDoorMH
namespace Go.Proofs.YtfijlaahifeimaaDoor.PS
open Go.RowKit Go.Proofs.YtfijlaahifeimaaDoorW.PrintWords Go.Proofs.YtfijlaahifeimaaDoorW.PrintLast Go.Proofs.YtfijlaahifeimaaDoorW.PrintMore
set_option linter.unusedVariables false
set_option linter.unusedSimpArgs false

/-- No single byte is told. -/
def NoOne (l : List Int) (ok : Bool) : Prop := ¬ (ok = true ∧ l.length = 1)
theorem single_no {l : List Int} {ok : Bool} (h : NoOne l ok) (b : Int) : sensor_single.f l ok b = some (0, false) := by
  unfold sensor_single.f
  by_cases c1 : ok = true
  · have : ¬ (l.length : Int) = 1 := fun e => h ⟨c1, by omega⟩
    rw [if_pos c1, if_neg this]
  · rw [if_neg c1]
theorem power_no {l : List Int} {ok : Bool} (h : NoOne l ok) : sensor_Power.f l ok = some (false, false) := by
  unfold sensor_Power.f; rw [single_no h]; rfl
theorem barrier_no {l : List Int} {ok : Bool} (h : NoOne l ok) : sensor_Barrier.f l ok = some (false, false, false, false) := by
  unfold sensor_Barrier.f; rw [single_no h]; rfl
theorem lamps_no {l : List Int} {ok : Bool} (h : NoOne l ok) : sensor_Lamps.f l ok = some false := by
  unfold sensor_Lamps.f; rw [single_no h]; rfl
theorem obstacle_no {l : List Int} {ok : Bool} (h : NoOne l ok) : sensor_Obstacle.f l ok = some true := by
  unfold sensor_Obstacle.f; rw [single_no h]; rfl
theorem mode_no {l : List Int} {ok : Bool} (h : NoOne l ok) : sensor_Mode.f l ok = some 1 := by
  unfold sensor_Mode.f; rw [single_no h]; rfl
theorem routes_no {l : List Int} {ok : Bool} (h : NoOne l ok) (t : Int) : sensor_Routes.f l ok t = some 0 := by
  unfold sensor_Routes.f; rw [single_no h]; rfl
theorem byte_wf {x : Int} (h : (Lit.int .u8 x).wf = true) : 0 ≤ x ∧ x ≤ 255 := by
  have e1 : IntKind.u8.min = 0 := rfl
  have e2 : IntKind.u8.max = 255 := rfl
  simp [Lit.wf, e1, e2] at h
  omega
/-- Either no single byte is told, or just one. -/
theorem one_or (l : List Int) (ok : Bool) (hb : ∀ x ∈ l, (Lit.int .u8 x).wf = true) : NoOne l ok ∨ (ok = true ∧ ∃ x : Int, l = [x] ∧ 0 ≤ x ∧ x ≤ 255) := by
  by_cases c : ok = true ∧ l.length = 1
  · obtain ⟨c1, c2⟩ := c
    match l, c2 with
    | [x], _ =>
      have := hb x (by simp)
      have hx := byte_wf this
      exact .inr ⟨c1, x, rfl, hx⟩
  · exact .inl c
/-- What holds of each number below 256 by reckoning holds of each byte. -/
theorem bytes_all (P : Int → Bool) (h : (List.range 256).all (fun n => P (n : Int)) = true) (x : Int) (h0 : 0 ≤ x) (h1 : x ≤ 255) : P x = true := by
  have := List.all_eq_true.1 h x.toNat (List.mem_range.2 (by omega))
  rwa [Int.toNat_of_nonneg h0] at this
/-- Counts of what has not four bytes, or is not told. -/
theorem counts_no {l : List Int} {ok : Bool} (h : ¬ (ok = true ∧ l.length = 4)) : sensor_Counts.f l ok = some (false, 0, 0, 0, 0) := by
  unfold sensor_Counts.f
  by_cases c1 : ok = true
  · have : ¬ (l.length : Int) = 4 := fun e => h ⟨c1, by omega⟩
    rw [if_pos c1, if_neg this]
  · rw [if_neg c1]
theorem wrap_byte {x : Int} (h0 : 0 ≤ x) (h1 : x ≤ 255) : wrap64 x = x := by unfold wrap64; omega
theorem counts_four (a b c d : Int) (ha : 0 ≤ a ∧ a ≤ 255) (hb : 0 ≤ b ∧ b ≤ 255) (hc : 0 ≤ c ∧ c ≤ 255) (hd : 0 ≤ d ∧ d ≤ 255) :
    sensor_Counts.f [a, b, c, d] true = if c ≤ 2 ∧ d ≤ 3 then some (true, a, b, c, d) else some (false, 0, 0, 0, 0) := by
  unfold sensor_Counts.f
  rw [if_pos rfl, if_pos (by rfl), if_pos (by simp)]
  have e0 : rd [a, b, c, d] 0 = a := rfl
  have e1 : rd [a, b, c, d] 1 = b := rfl
  have e2 : rd [a, b, c, d] 2 = c := rfl
  have e3 : rd [a, b, c, d] 3 = d := rfl
  rw [e0, e1, e2, e3, wrap_byte ha.1 ha.2, wrap_byte hb.1 hb.2, wrap_byte hc.1 hc.2, wrap_byte hd.1 hd.2]
  by_cases c1 : c ≥ 3
  · rw [if_pos c1, if_neg (by omega)]
  · rw [if_neg c1, if_pos (by simp)]
    by_cases c2 : d ≥ 4
    · rw [if_pos c2, if_neg (by omega)]
    · rw [if_neg c2, if_pos (by simp), if_pos (by simp), if_pos (by omega)]
theorem four_or (l : List Int) (ok : Bool) (hb : ∀ x ∈ l, (Lit.int .u8 x).wf = true) : ¬ (ok = true ∧ l.length = 4) ∨ (ok = true ∧ ∃ a b c d : Int, l = [a, b, c, d] ∧ (0 ≤ a ∧ a ≤ 255) ∧ (0 ≤ b ∧ b ≤ 255) ∧ (0 ≤ c ∧ c ≤ 255) ∧ (0 ≤ d ∧ d ≤ 255)) := by
  by_cases c : ok = true ∧ l.length = 4
  · obtain ⟨c1, c2⟩ := c
    match l, c2 with
    | [a, b, c, d], _ =>
      have h : ∀ x ∈ [a, b, c, d], 0 ≤ x ∧ x ≤ 255 := fun x hx => byte_wf (hb x hx)
      exact .inr ⟨c1, a, b, c, d, rfl, h a (by simp), h b (by simp), h c (by simp), h d (by simp)⟩
  · exact .inl c
end Go.Proofs.YtfijlaahifeimaaDoor.PS
/- frame: FrameShort's walk. -/
namespace Go.Proofs.YtfijlaahifeimaaDoor.PE
open Go.RowKit Go.Extern.Stop Go.Stop Go.Extern Go.Proofs.YtfijlaahifeimaaDoorW.PrintWords Go.Proofs.YtfijlaahifeimaaDoorW.PrintLast Go.Proofs.YtfijlaahifeimaaDoorW.PrintMore
set_option linter.unusedVariables false
set_option linter.unusedSimpArgs false
theorem dec_len {l : List Int} (h : decE l = 0) : (decD l).length + 5 = l.length := by
  have hD : decD l = (openL l).drop 3 := by unfold decD; rw [if_pos h]
  unfold decE at h
  have hok : openOk l = true := by
    cases hk : openOk l with
    | true => rfl
    | false => rw [if_pos hk] at h; exact absurd h (by decide)
  rw [if_neg (by rw [hok]; decide)] at h
  have hf : ¬ formBad (openL l) := fun hf => by rw [if_pos hf] at h; exact absurd h (by decide)
  have hL : openL l = l.take (l.length - 2) := by unfold openL; rw [hok]; rfl
  have h2 : 2 ≤ l.length := by
    unfold openOk at hok
    exact of_decide_eq_true (Bool.and_eq_true_iff.1 hok).1
  have h3 : 3 ≤ (openL l).length := by unfold formBad at hf; omega
  rw [hD, List.length_drop]
  rw [hL, List.length_take] at h3 ⊢
  omega
theorem dec_enc {ch sq : Int} {xs : List Int} (h : decE (encL ch sq xs) = 0) : decC (encL ch sq xs) = ch ∧ decQ (encL ch sq xs) = sq ∧ decD (encL ch sq xs) = xs := by
  have hok : openOk (encL ch sq xs) = true := by
    cases hk : openOk (encL ch sq xs) with
    | true => rfl
    | false =>
      have h2 := h
      unfold decE at h2
      rw [if_pos hk] at h2; exact absurd h2 (by decide)
  have hL : openL (encL ch sq xs) = [ch, sq, (xs.length : Int)] ++ xs := by
    unfold openL
    rw [hok, if_pos rfl, encL_len]
    unfold encL sealL
    rw [List.take_append_of_le_length (by simp; omega), List.take_of_length_le (by simp; omega)]
  unfold decC decQ decD
  rw [if_pos h, if_pos h, if_pos h, hL]
  exact ⟨rfl, rfl, rfl⟩
end Go.Proofs.YtfijlaahifeimaaDoor.PE
/- frame: bytes bear their sum if and only if the last two are the sum of the rest. -/
namespace Go.Proofs.YtfijlaahifeimaaDoor.PE
open Go.RowKit Go.Proofs.YtfijlaahifeimaaDoorW.PrintWords
set_option linter.unusedVariables false
set_option linter.unusedSimpArgs false
theorem low_all : ∀ z : Fin 256, Tn 8 (BitVec.ofNat 16 z.val) = BitVec.ofNat 16 z.val <<< 8 := by decide +kernel
theorem low_byte (b : Int) (h : 0 ≤ b ∧ b ≤ 255) : Tn 8 (BitVec.ofInt 16 b) = BitVec.ofInt 16 b <<< 8 := by
  obtain ⟨n, rfl⟩ := Int.eq_ofNat_of_zero_le h.1
  have e : BitVec.ofInt 16 ((n : Nat) : Int) = BitVec.ofNat 16 n := BitVec.ofInt_natCast _ _
  rw [e]
  exact low_all ⟨n, by omega⟩
theorem xor_nat (a b : Nat) (hb : b < 256) : (2 ^ 8 * a) ^^^ b = 2 ^ 8 * a + b := by
  apply Nat.eq_of_testBit_eq
  intro i
  rw [Nat.testBit_xor, Nat.testBit_two_pow_mul, Nat.testBit_two_pow_mul_add a (show b < 2 ^ 8 by omega)]
  by_cases h : i < 8
  · rw [if_pos h, decide_eq_false (by omega)]; simp
  · rw [if_neg h, decide_eq_true (by omega)]
    have hb2 : b.testBit i = false := Nat.testBit_lt_two_pow (Nat.lt_of_lt_of_le (show b < 2 ^ 8 by omega) (Nat.pow_le_pow_right (by omega) (by omega)))
    rw [hb2]; simp
theorem pair_num (a b : Int) (ha : 0 ≤ a ∧ a ≤ 255) (hb : 0 ≤ b ∧ b ≤ 255) : num ((BitVec.ofInt 16 a <<< 8) ^^^ BitVec.ofInt 16 b) = a * 256 + b := by
  obtain ⟨m, rfl⟩ := Int.eq_ofNat_of_zero_le ha.1
  obtain ⟨n, rfl⟩ := Int.eq_ofNat_of_zero_le hb.1
  rw [BitVec.ofInt_natCast, BitVec.ofInt_natCast]
  unfold num
  rw [BitVec.toNat_xor, BitVec.toNat_shiftLeft, BitVec.toNat_ofNat, BitVec.toNat_ofNat, Nat.shiftLeft_eq, Nat.mod_eq_of_lt (show m < 2 ^ 16 by omega), Nat.mod_eq_of_lt (show n < 2 ^ 16 by omega), Nat.mod_eq_of_lt (show m * 2 ^ 8 < 2 ^ 16 by omega), Nat.mul_comm, xor_nat m n (by omega)]
  omega
theorem num_inj {s t : BitVec 16} (h : num s = num t) : s = t := by
  apply BitVec.eq_of_toNat_eq
  unfold num at h
  omega
theorem num_zero (s : BitVec 16) : num s = 0 ↔ s = 0#16 := by
  constructor
  · intro h; exact num_inj (by rw [h]; rfl)
  · rintro rfl; rfl
theorem residue (S : BitVec 16) (a b : Int) (ha : 0 ≤ a ∧ a ≤ 255) (hb : 0 ≤ b ∧ b ≤ 255) : num (B (B S a) b) = 0 ↔ num S = a * 256 + b := by
  rw [num_zero]
  have h1 : B (B S a) b = 0#16 ↔ S = (BitVec.ofInt 16 a <<< 8) ^^^ BitVec.ofInt 16 b := by
    constructor
    · intro h
      unfold B at h
      have h2 := BitVec.xor_eq_zero_iff.1 (Tn_ker 8 _ h)
      rw [← low_byte b hb] at h2
      have h3 := Tn_inj 8 _ _ h2
      rw [← h3, BitVec.xor_comm S, ← BitVec.xor_assoc, BitVec.xor_self, BitVec.zero_xor]
    · intro h
      unfold B
      rw [h, BitVec.xor_comm (BitVec.ofInt 16 a <<< 8), BitVec.xor_assoc, BitVec.xor_self, BitVec.xor_zero, low_byte b hb, BitVec.xor_self]
      exact Tn_zero 8
  rw [h1]
  constructor
  · intro h; rw [h, pair_num a b ha hb]
  · intro h; exact num_inj (by rw [h, pair_num a b ha hb])
theorem sumL_two (l : List Int) (a b : Int) : sumL (l ++ [a, b]) = B (B (sumL l) a) b := by
  unfold sumL crcL
  rw [List.foldl_append]; rfl
theorem open_seal (l : List Int) : openOk (sealL l) = true ∧ openL (sealL l) = l := by
  have hn := num_lt (sumL l)
  have h0 : num (sumL (sealL l)) = 0 := by
    unfold sealL
    rw [sumL_two]
    exact (residue _ _ _ (by omega) (by omega)).2 (by omega)
  have hok : openOk (sealL l) = true := by
    unfold openOk
    rw [decide_eq_true h0, decide_eq_true (by rw [sealL_len]; omega)]; rfl
  refine ⟨hok, ?_⟩
  unfold openL
  rw [hok, if_pos rfl, sealL_len]
  unfold sealL
  rw [Nat.add_sub_cancel, List.take_left']
  rfl
theorem seal_open {l : List Int} (hb : Bytes l) (h : openOk l = true) : l = sealL (openL l) := by
  have h2 : 2 ≤ l.length := by
    unfold openOk at h
    exact of_decide_eq_true (Bool.and_eq_true_iff.1 h).1
  have h0 : num (sumL l) = 0 := by
    unfold openOk at h
    exact of_decide_eq_true (Bool.and_eq_true_iff.1 h).2
  have hL : openL l = l.take (l.length - 2) := by unfold openL; rw [h]; rfl
  obtain ⟨a, b, hd⟩ : ∃ a b, l.drop (l.length - 2) = [a, b] := by
    have hlen : (l.drop (l.length - 2)).length = 2 := by rw [List.length_drop]; omega
    match hm : l.drop (l.length - 2) with
    | [] => rw [hm] at hlen; simp at hlen
    | [x] => rw [hm] at hlen; simp at hlen
    | [x, y] => exact ⟨x, y, rfl⟩
    | x :: y :: z :: t => rw [hm] at hlen; simp at hlen
  have hl : l = l.take (l.length - 2) ++ [a, b] := by rw [← hd, List.take_append_drop]
  have ha := hb a (by rw [hl]; simp)
  have hb2 := hb b (by rw [hl]; simp)
  rw [hL]
  generalize l.take (l.length - 2) = m at hl
  rw [hl] at h0 ⊢
  rw [sumL_two] at h0
  have hr := (residue _ a b ha hb2).1 h0
  unfold sealL
  rw [hr]
  have e1 : (a * 256 + b) / 256 = a := by omega
  have e2 : (a * 256 + b) % 256 = b := by omega
  rw [e1, e2]
/-- What was encoded is decoded as it was. -/
theorem dec_of_enc {ch sq : Int} {xs : List Int} (ha : ¬ argF ch sq xs.length) : decE (encL ch sq xs) = 0 := by
  have h := open_seal ([ch, sq, (xs.length : Int)] ++ xs)
  have hL : openL (encL ch sq xs) = [ch, sq, (xs.length : Int)] ++ xs := h.2
  have hok : openOk (encL ch sq xs) = true := h.1
  unfold decE
  rw [if_neg (by rw [hok]; decide), if_neg]
  rw [hL]
  unfold argF at ha
  unfold formBad
  have e0 : at_ ([ch, sq, (xs.length : Int)] ++ xs) 0 = ch := rfl
  have e2 : at_ ([ch, sq, (xs.length : Int)] ++ xs) 2 = (xs.length : Int) := rfl
  rw [e0, e2]
  simp
  omega
/-- What is decoded has one form. -/
theorem enc_of_dec {l : List Int} (hb : Bytes l) (h : decE l = 0) : ¬ argF (decC l) (decQ l) (decD l).length ∧ encL (decC l) (decQ l) (decD l) = l := by
  have hC : decC l = at_ (openL l) 0 := by unfold decC; rw [if_pos h]
  have hQ : decQ l = at_ (openL l) 1 := by unfold decQ; rw [if_pos h]
  have hD : decD l = (openL l).drop 3 := by unfold decD; rw [if_pos h]
  have hok : openOk l = true := by
    cases hk : openOk l with
    | true => rfl
    | false => unfold decE at h; rw [if_pos hk] at h; exact absurd h (by decide)
  have hf : ¬ formBad (openL l) := fun hf => by
    unfold decE at h
    rw [if_neg (by rw [hok]; decide), if_pos hf] at h; exact absurd h (by decide)
  have hs := seal_open hb hok
  have hbo := bytes_open hb
  rw [hC, hQ, hD]
  generalize openL l = x at hs hf hbo
  have b0 := bytes_at hbo 0
  have b1 := bytes_at hbo 1
  unfold formBad at hf
  match x, hf, hbo, hs with
  | [], hf, _, _ => simp at hf
  | [_], hf, _, _ => simp at hf
  | [_, _], hf, _, _ => simp at hf
  | a :: b :: c :: t, hf, hbo, hs =>
    have e0 : at_ (a :: b :: c :: t) 0 = a := rfl
    have e1 : at_ (a :: b :: c :: t) 1 = b := rfl
    have e2 : at_ (a :: b :: c :: t) 2 = c := rfl
    rw [e0, e2] at hf
    rw [e0] at b0
    rw [e1] at b1
    rw [e0, e1]
    simp only [List.length_cons] at hf
    simp only [List.drop_succ_cons, List.drop_zero]
    have hc : c = (t.length : Int) := by omega
    refine ⟨by unfold argF; omega, ?_⟩
    rw [hs]
    unfold encL
    rw [hc]; rfl
end Go.Proofs.YtfijlaahifeimaaDoor.PE
/- What is printed of a channel is read as it was: plain laws. -/
namespace Go.Proofs.YtfijlaahifeimaaDoor.PS
open Go.RowKit Go.Proofs.YtfijlaahifeimaaDoorW.PrintWords Go.Proofs.YtfijlaahifeimaaDoorW.PrintLast Go.Proofs.YtfijlaahifeimaaDoorW.PrintMore
set_option linter.unusedVariables false
set_option linter.unusedSimpArgs false

def Inp.prt (i : Inp) (ch : Int) : Option (List Int) := sensor_Print.f 9 i.b0 i.b1 i.b2 i.b3 i.sure i.lamps i.obst i.mode i.mains i.batt i.routes i.tracks ch
def bn (b : Bool) : Int := if b = true then 1 else 0
def Inp.p0 (i : Inp) : List Int := if (i.b0 && i.b1 || i.b2 && i.b3) = true then [] else [bn i.b0 + 2 * bn i.b1 + 4 * bn i.b2 + 8 * bn i.b3]
theorem prt0 (i : Inp) : i.prt 0 = some i.p0 := by
  obtain ⟨b0, b1, b2, b3, su, la, ob, mo, ma, ba, ro, tr⟩ := i
  cases b0 <;> cases b1 <;> cases b2 <;> cases b3 <;> (show _ = _; kernel_rfl)
theorem p0_back (i : Inp) (h : 0 < i.p0.length) : ∃ x, i.p0 = [x] ∧ sensor_Barrier.f [x] true = some (i.b0, i.b1, i.b2, i.b3) := by
  obtain ⟨b0, b1, b2, b3, su, la, ob, mo, ma, ba, ro, tr⟩ := i
  revert h
  unfold Inp.p0
  cases b0 <;> cases b1 <;> cases b2 <;> cases b3 <;> first | (intro h; simp at h; done) | (intro _; refine ⟨_, rfl, ?_⟩; kernel_rfl)
theorem prt1 (i : Inp) : i.prt 1 = some [bn i.lamps] := by
  obtain ⟨b0, b1, b2, b3, su, la, ob, mo, ma, ba, ro, tr⟩ := i
  cases la <;> (show _ = _; kernel_rfl)
theorem prt2 (i : Inp) : i.prt 2 = some [bn i.obst] := by
  obtain ⟨b0, b1, b2, b3, su, la, ob, mo, ma, ba, ro, tr⟩ := i
  cases ob <;> (show _ = _; kernel_rfl)
theorem prt4 (i : Inp) : i.prt 4 = some [bn i.mains + 2 * bn i.batt] := by
  obtain ⟨b0, b1, b2, b3, su, la, ob, mo, ma, ba, ro, tr⟩ := i
  cases ma <;> cases ba <;> (show _ = _; kernel_rfl)
theorem prt3 (i : Inp) : i.prt 3 = sensor_number.f i.mode 3 := by
  have e : ∀ o : Option (List Int), (o.bind fun t => some t) = o := fun o => by cases o <;> rfl
  exact (show i.prt 3 = (sensor_number.f i.mode 3).bind fun t => some t by kernel_rfl).trans (e _)
theorem prt5 (i : Inp) : i.prt 5 = sensor_number.f i.routes 256 := by
  have e : ∀ o : Option (List Int), (o.bind fun t => some t) = o := fun o => by cases o <;> rfl
  exact (show i.prt 5 = (sensor_number.f i.routes 256).bind fun t => some t by kernel_rfl).trans (e _)
theorem lamps_back (b : Bool) : sensor_Lamps.f [bn b] true = some b := by cases b <;> (show _ = _; kernel_rfl)
theorem obst_back (b : Bool) : sensor_Obstacle.f [bn b] true = some b := by cases b <;> (show _ = _; kernel_rfl)
theorem power_back (a b : Bool) : sensor_Power.f [bn a + 2 * bn b] true = some (a, b) := by cases a <;> cases b <;> (show _ = _; kernel_rfl)
/-- A number as a byte: what it is. -/
theorem number_is (n b : Int) : sensor_number.f n b = some (if 0 ≤ n ∧ n < b then [n % 256] else []) := by
  unfold sensor_number.f
  by_cases h1 : n < 0
  · rw [if_pos h1, if_neg (by omega)]
  · rw [if_neg h1]
    by_cases h2 : n ≥ b
    · rw [if_pos h2, if_neg (by omega)]
    · rw [if_neg h2, if_pos (by omega)]
theorem mode_back (m : Int) (h0 : 0 ≤ m) (h1 : m < 3) : sensor_Mode.f [m % 256] true = some m := by
  obtain rfl | rfl | rfl : m = 0 ∨ m = 1 ∨ m = 2 := by omega
  · kernel_rfl
  · kernel_rfl
  · kernel_rfl
theorem routes_back (n : Int) (h0 : 0 ≤ n) (h1 : n < 256) : sensor_Routes.f [n % 256] true 8 = some n := by
  have e := bytes_all (fun n => sensor_Routes.f [n % 256] true 8 == some n) (by kernel_rfl) n h0 (by omega)
  simpa using e
theorem concat_flat (ls : List (List Int)) (hl : ls.length = 4) (hs : ∀ l ∈ ls, l.length ≤ 1) : slices_Concat_byte_byte.f 8 ls = some ls.flatten := by
  match ls, hl with
  | [a, b, c, d], _ =>
    have ha := hs a (by simp)
    have hb := hs b (by simp)
    have hc := hs c (by simp)
    have hd := hs d (by simp)
    unfold slices_Concat_byte_byte.f
    have r0 : rd_L1 [a, b, c, d] 0 = a := rfl
    have r1 : rd_L1 [a, b, c, d] 1 = b := rfl
    have r2 : rd_L1 [a, b, c, d] 2 = c := rfl
    have r3 : rd_L1 [a, b, c, d] 3 = d := rfl
    have w1 : wrap64 (0 + 1) = 1 := by unfold wrap64; omega
    have w2 : wrap64 (1 + 1) = 2 := by unfold wrap64; omega
    have w3 : wrap64 (2 + 1) = 3 := by unfold wrap64; omega
    have w4 : wrap64 (3 + 1) = 4 := by unfold wrap64; omega
    simp only [slices_Concat_byte_byte.l0, List.length_cons, List.length_nil]
    rw [if_pos (by omega), if_pos (by omega), if_pos (by omega), r0, if_pos (by simp; omega), w1]
    rw [if_pos (by omega), if_pos (by omega), if_pos (by omega), r1, if_pos (by simp; omega), w2]
    rw [if_pos (by omega), if_pos (by omega), if_pos (by omega), r2, if_pos (by simp; omega), w3]
    rw [if_pos (by omega), if_pos (by omega), if_pos (by omega), r3, if_pos (by simp; omega), w4]
    rw [if_neg (by omega)]
    simp
/-- What is printed of a track: its bytes, if it has them. -/
def trackB (s : S48) : List Int := if s.f0 = true ∧ (0 ≤ s.f1 ∧ s.f1 < 256) ∧ (0 ≤ s.f2 ∧ s.f2 < 256) ∧ (0 ≤ s.f3 ∧ s.f3 < 3) ∧ 0 ≤ s.f4 ∧ s.f4 < 4 then [s.f1, s.f2, s.f3, s.f4] else []
theorem track_is (s : S48) : sensor_track.f 8 s.f0 s.f1 s.f2 s.f3 s.f4 = some (trackB s) := by
  unfold sensor_track.f
  rw [number_is, number_is, number_is, number_is]
  simp only [Option.bind_some]
  rw [concat_flat _ rfl (by
    intro l hl
    simp only [List.mem_cons, List.not_mem_nil, or_false] at hl
    rcases hl with rfl | rfl | rfl | rfl <;> (split <;> simp))]
  simp only [Option.bind_some]
  unfold trackB
  by_cases h0 : s.f0 = true
  · rw [if_pos h0]
    by_cases h1 : 0 ≤ s.f1 ∧ s.f1 < 256
    · rw [if_pos h1]
      by_cases h2 : 0 ≤ s.f2 ∧ s.f2 < 256
      · rw [if_pos h2]
        by_cases h3 : 0 ≤ s.f3 ∧ s.f3 < 3
        · rw [if_pos h3]
          by_cases h4 : 0 ≤ s.f4 ∧ s.f4 < 4
          · rw [if_pos h4, if_pos (show (s.f0 = true ∧ (0 ≤ s.f1 ∧ s.f1 < 256) ∧ (0 ≤ s.f2 ∧ s.f2 < 256) ∧ (0 ≤ s.f3 ∧ s.f3 < 3) ∧ 0 ≤ s.f4 ∧ s.f4 < 4) from ⟨h0, h1, h2, h3, h4⟩)]
            simp
            omega
          · rw [if_neg h4, if_neg (show ¬ (s.f0 = true ∧ (0 ≤ s.f1 ∧ s.f1 < 256) ∧ (0 ≤ s.f2 ∧ s.f2 < 256) ∧ (0 ≤ s.f3 ∧ s.f3 < 3) ∧ 0 ≤ s.f4 ∧ s.f4 < 4) from fun h => h4 h.2.2.2.2)]
            simp
        · rw [if_neg h3, if_neg (show ¬ (s.f0 = true ∧ (0 ≤ s.f1 ∧ s.f1 < 256) ∧ (0 ≤ s.f2 ∧ s.f2 < 256) ∧ (0 ≤ s.f3 ∧ s.f3 < 3) ∧ 0 ≤ s.f4 ∧ s.f4 < 4) from fun h => h3 h.2.2.2.1)]
          by_cases h4 : 0 ≤ s.f4 ∧ s.f4 < 4
          · rw [if_pos h4]; simp
          · rw [if_neg h4]; simp
      · rw [if_neg h2, if_neg (show ¬ (s.f0 = true ∧ (0 ≤ s.f1 ∧ s.f1 < 256) ∧ (0 ≤ s.f2 ∧ s.f2 < 256) ∧ (0 ≤ s.f3 ∧ s.f3 < 3) ∧ 0 ≤ s.f4 ∧ s.f4 < 4) from fun h => h2 h.2.2.1)]
        by_cases h3 : 0 ≤ s.f3 ∧ s.f3 < 3
        · rw [if_pos h3]
          by_cases h4 : 0 ≤ s.f4 ∧ s.f4 < 4
          · rw [if_pos h4]; simp
          · rw [if_neg h4]; simp
        · rw [if_neg h3]
          by_cases h4 : 0 ≤ s.f4 ∧ s.f4 < 4
          · rw [if_pos h4]; simp
          · rw [if_neg h4]; simp
    · rw [if_neg h1, if_neg (show ¬ (s.f0 = true ∧ (0 ≤ s.f1 ∧ s.f1 < 256) ∧ (0 ≤ s.f2 ∧ s.f2 < 256) ∧ (0 ≤ s.f3 ∧ s.f3 < 3) ∧ 0 ≤ s.f4 ∧ s.f4 < 4) from fun h => h1 h.2.1)]
      have hlen : ∀ (p : Prop) [Decidable p] (x : Int), (if p then [x] else []).length ≤ 1 := fun p _ x => by split <;> simp
      rw [if_neg]
      simp only [List.flatten_cons, List.flatten_nil, List.length_append, List.length_nil, List.append_nil, List.nil_append]
      have a := hlen (0 ≤ s.f2 ∧ s.f2 < 256) (s.f2 % 256)
      have b := hlen (0 ≤ s.f3 ∧ s.f3 < 3) (s.f3 % 256)
      have c := hlen (0 ≤ s.f4 ∧ s.f4 < 4) (s.f4 % 256)
      omega
  · rw [if_neg h0, if_neg (show ¬ (s.f0 = true ∧ (0 ≤ s.f1 ∧ s.f1 < 256) ∧ (0 ≤ s.f2 ∧ s.f2 < 256) ∧ (0 ≤ s.f3 ∧ s.f3 < 3) ∧ 0 ≤ s.f4 ∧ s.f4 < 4) from fun h => h0 h.1)]
theorem prtT (i : Inp) (j : Nat) (h : j < i.tracks.length) (hj : j < 1000) : i.prt ((8 : Int) + j) = some (trackB (rd_T48 i.tracks j)) := by
  unfold Inp.prt sensor_Print.f
  have w : wrap64 ((8 : Int) + j - 8) = j := by unfold wrap64; omega
  rw [if_pos (by omega), w]
  have d : decide ((j : Int) < (i.tracks.length : Int)) = true := decide_eq_true (by omega)
  rw [d]
  simp only [sensor_Print.j0, if_true, w]
  rw [if_pos (by omega), if_pos (by omega), track_is]
  rfl
theorem trackB_back (s : S48) (h : 0 < (trackB s).length) : trackB s = [s.f1, s.f2, s.f3, s.f4] ∧ sensor_Counts.f (trackB s) true = some (s.f0, s.f1, s.f2, s.f3, s.f4) := by
  unfold trackB at h ⊢
  by_cases c : s.f0 = true ∧ (0 ≤ s.f1 ∧ s.f1 < 256) ∧ (0 ≤ s.f2 ∧ s.f2 < 256) ∧ (0 ≤ s.f3 ∧ s.f3 < 3) ∧ 0 ≤ s.f4 ∧ s.f4 < 4
  · rw [if_pos c] at h ⊢
    refine ⟨rfl, ?_⟩
    rw [counts_four _ _ _ _ (by omega) (by omega) (by omega) (by omega), if_pos (by omega), c.1]
  · rw [if_neg c] at h
    simp at h
end Go.Proofs.YtfijlaahifeimaaDoor.PS
/- What the channels are told of any inputs, all in one tick: plain laws. -/
namespace Go.Proofs.YtfijlaahifeimaaDoor.PE
open Go.RowKit Go.Extern.Stop Go.Stop Go.Extern Go.Proofs.YtfijlaahifeimaaDoorW.PrintWords Go.Proofs.YtfijlaahifeimaaDoorW.PrintLast Go.Proofs.YtfijlaahifeimaaDoorW.PrintMore Go.Proofs.YtfijlaahifeimaaDoor.PS
set_option linter.unusedVariables false
set_option linter.unusedSimpArgs false
/-- A number that is one byte, or nothing. -/
def byte1 (n b : Int) : List Int := if 0 ≤ n ∧ n < b then [n % 256] else []
/-- What is printed of the channel c. -/
def bB (i : Inp) (c : Nat) : List Int :=
  if c = 0 then i.p0 else if c = 1 then [bn i.lamps] else if c = 2 then [bn i.obst] else if c = 3 then byte1 i.mode 3 else if c = 4 then [bn i.mains + 2 * bn i.batt] else if c = 5 then byte1 i.routes 256 else if c < 8 then [] else trackB (rd_T48 i.tracks ((c - 8 : Nat) : Int))
theorem prt_is (i : Inp) (c : Nat) (hc : c < 8 + i.tracks.length) (ht : i.tracks.length ≤ 8) : i.prt (c : Int) = some (bB i c) := by
  by_cases h8 : 8 ≤ c
  · have e := prtT i (c - 8) (by omega) (by omega)
    rw [show (8 : Int) + ((c - 8 : Nat) : Int) = (c : Int) by omega] at e
    rw [e]
    unfold bB
    rw [if_neg (by omega), if_neg (by omega), if_neg (by omega), if_neg (by omega), if_neg (by omega), if_neg (by omega), if_neg (by omega)]
  · obtain rfl | rfl | rfl | rfl | rfl | rfl | rfl | rfl : c = 0 ∨ c = 1 ∨ c = 2 ∨ c = 3 ∨ c = 4 ∨ c = 5 ∨ c = 6 ∨ c = 7 := by omega
    · exact prt0 i
    · exact prt1 i
    · exact prt2 i
    · exact (prt3 i).trans (number_is _ _)
    · exact prt4 i
    · exact (prt5 i).trans (number_is _ _)
    · show i.prt 6 = some []
      kernel_rfl
    · show i.prt 7 = some []
      kernel_rfl
theorem byte1_small (n b : Int) : (byte1 n b).length ≤ 4 ∧ Bytes (byte1 n b) := by
  unfold byte1
  split
  · refine ⟨by simp, fun y hy => ?_⟩
    rw [List.mem_singleton] at hy; omega
  · exact ⟨by simp, fun y hy => absurd hy (by simp)⟩
theorem bn_small (b : Bool) : 0 ≤ bn b ∧ bn b ≤ 1 := by cases b <;> decide
theorem one_small (x : Int) (h : 0 ≤ x ∧ x ≤ 255) : [x].length ≤ 4 ∧ Bytes [x] := ⟨by simp, fun y hy => by rw [List.mem_singleton] at hy; rw [hy]; exact h⟩
theorem bB_small (i : Inp) (c : Nat) : (bB i c).length ≤ 4 ∧ Bytes (bB i c) := by
  have h0 : ([] : List Int).length ≤ 4 ∧ Bytes [] := ⟨by simp, fun y hy => absurd hy (by simp)⟩
  unfold bB
  split
  · unfold Inp.p0
    split
    · exact h0
    · have a := bn_small i.b0; have b := bn_small i.b1; have c := bn_small i.b2; have d := bn_small i.b3
      exact one_small _ (by omega)
  split
  · have a := bn_small i.lamps; exact one_small _ (by omega)
  split
  · have a := bn_small i.obst; exact one_small _ (by omega)
  split
  · exact byte1_small _ _
  split
  · have a := bn_small i.mains; have b := bn_small i.batt; exact one_small _ (by omega)
  split
  · exact byte1_small _ _
  split
  · exact h0
  · unfold trackB
    split
    · rename_i h
      refine ⟨by simp, fun y hy => ?_⟩
      simp only [List.mem_cons, List.not_mem_nil, or_false] at hy
      rcases hy with rfl | rfl | rfl | rfl <;> omega
    · exact h0
/-- The telegrams of the channels below k. -/
def rowsB (i : Inp) (sq : Int) : Nat → List (List Int)
  | 0 => []
  | k + 1 => if 0 < (bB i k).length then rowsB i sq k ++ [encB (k : Int) (sq % 256) (bB i k)] else rowsB i sq k
/-- The channels that were told, those below k. -/
def stB (i : Inp) (sq : Int) (k : Nat) : Nat → Ch := fun j => if j < k ∧ 0 < (bB i j).length then ⟨true, sq % 256, 1, bB i j⟩ else Ch.zero
theorem rowsB_len (i : Inp) (sq : Int) : ∀ k, (rowsB i sq k).length ≤ k
  | 0 => by simp [rowsB]
  | k + 1 => by
    have h := rowsB_len i sq k
    unfold rowsB
    split
    · simp; omega
    · omega
theorem argF_no (i : Inp) (sq : Int) (k : Nat) (hk : k < 16) : ¬ argF (k : Int) (sq % 256) (bB i k).length := by
  have h := (bB_small i k).1
  unfold argF
  omega
theorem rowsB_bytes (i : Inp) (sq : Int) : ∀ k, k ≤ 16 → BytesL (rowsB i sq k)
  | 0, _ => fun b hb => absurd hb (by simp [rowsB])
  | k + 1, hk => by
    have h := rowsB_bytes i sq k (by omega)
    unfold rowsB
    split
    · intro b hb
      rcases List.mem_append.1 hb with hb | hb
      · exact h b hb
      · rw [List.mem_singleton] at hb
        have hn := argF_no i sq k (by omega)
        have hs := bB_small i k
        rw [hb]
        unfold encB
        rw [if_neg hn]
        refine ⟨bytes_enc hs.2 hn, ?_⟩
        unfold encL
        rw [sealL_len]
        simp
        omega
    · exact h
/-- Each telegram is taken. -/
theorem step_tele (i : Inp) (sq F : Int) (hF : 1 ≤ F) (k : Nat) (hk : k < 16) : stepF F 1 (((rowsB i sq k).length : Int), stB i sq k) (encB (k : Int) (sq % 256) (bB i k)) = (((rowsB i sq k).length : Int) + 1, upd (stB i sq k) k ⟨true, sq % 256, 1, bB i k⟩) := by
  have hn := argF_no i sq k hk
  have hb := (bB_small i k).1
  have e0 : decE (encB (k : Int) (sq % 256) (bB i k)) = 0 := by
    unfold encB; rw [if_neg hn]; exact dec_of_enc hn
  have e1 : decC (encB (k : Int) (sq % 256) (bB i k)) = (k : Int) ∧ decQ (encB (k : Int) (sq % 256) (bB i k)) = sq % 256 ∧ decD (encB (k : Int) (sq % 256) (bB i k)) = bB i k := by
    unfold encB at e0 ⊢; rw [if_neg hn] at e0 ⊢; exact dec_enc e0
  have hl : ¬ largF (k : Int) (sq % 256) (bB i k).length := by unfold largF; omega
  have ht : takeE F 1 (stB i sq k) (k : Int) (sq % 256) (bB i k).length = 0 := by
    unfold takeE
    rw [if_neg hl, if_neg]
    have z : stB i sq k (k : Int).toNat = Ch.zero := by
      unfold stB
      rw [Int.toNat_natCast, if_neg (by omega)]
    rw [z]
    have hz : oldF F 1 Ch.zero (sq % 256) = false := rfl
    rw [hz]
    decide
  have hE : takeIE F 1 (stB i sq k) (encB (k : Int) (sq % 256) (bB i k)) = 0 := by
    unfold takeIE
    rw [if_pos e0, e1.1, e1.2.1, e1.2.2, ht]
  have hS : takeIS F 1 (stB i sq k) (encB (k : Int) (sq % 256) (bB i k)) = upd (stB i sq k) k ⟨true, sq % 256, 1, bB i k⟩ := by
    unfold takeIS takeS
    rw [if_pos e0, e1.1, e1.2.1, e1.2.2, if_pos ht, Int.toNat_natCast]
  unfold stepF
  rw [hE, hS, if_pos rfl]
theorem stB_succ (i : Inp) (sq : Int) (k : Nat) : stB i sq (k + 1) = if 0 < (bB i k).length then upd (stB i sq k) k ⟨true, sq % 256, 1, bB i k⟩ else stB i sq k := by
  funext j
  split
  · rename_i h
    unfold upd stB
    by_cases hj : j = k
    · subst hj
      rw [if_pos (by omega), if_pos rfl]
    · rw [if_neg hj]
      by_cases hl : j < k ∧ 0 < (bB i j).length
      · rw [if_pos (by omega), if_pos hl]
      · rw [if_neg (by omega), if_neg hl]
  · rename_i h
    unfold stB
    by_cases hl : j < k ∧ 0 < (bB i j).length
    · rw [if_pos (by omega), if_pos hl]
    · rw [if_neg, if_neg hl]
      rintro ⟨h1, h2⟩
      have : j = k := by omega
      subst this
      exact h h2
theorem step_rows (i : Inp) (sq F : Int) (hF : 1 ≤ F) : ∀ k, k ≤ 16 → stepI F 1 (fun _ => Ch.zero) (rowsB i sq k) = (((rowsB i sq k).length : Int), stB i sq k)
  | 0, _ => by
    have e : stB i sq 0 = fun _ => Ch.zero := by funext j; unfold stB; rw [if_neg (by omega)]
    rw [e]; rfl
  | k + 1, hk => by
    have h := step_rows i sq F hF k (by omega)
    unfold stepI at h ⊢
    rw [stB_succ]
    unfold rowsB
    split
    · rw [List.foldl_append, h, List.foldl_cons, List.foldl_nil, step_tele i sq F hF k (by omega), List.length_append]
      simp
    · exact h
theorem stB_is (i : Inp) (sq : Int) (k j : Nat) : stB i sq k j = Ch.zero ∨ (stB i sq k j).tm = 1 := by
  unfold stB
  split
  · exact .inr rfl
  · exact .inl rfl
/-- As long as it is fresh. -/
theorem isF_lost (i : Inp) (sq F : Int) (k : Nat) (n : Int) (hn : 0 ≤ n ∧ n ≤ F) (ch : Int) : isF F (1 + n) (stB i sq k) ch = isF F 1 (stB i sq k) ch := by
  unfold isF Ch.fresh
  rcases stB_is i sq k ch.toNat with h | h
  · rw [h]; rfl
  · rw [h, decide_eq_true (p := min (1 + n - 1) (F + 1) ≤ F) (by omega), decide_eq_true (p := min ((1 : Int) - 1) (F + 1) ≤ F) (by omega)]
theorem dataF_lost (i : Inp) (sq F : Int) (k : Nat) (n : Int) (hn : 0 ≤ n ∧ n ≤ F) (ch : Int) : dataF F (1 + n) (stB i sq k) ch = dataF F 1 (stB i sq k) ch := by
  unfold dataF
  rw [isF_lost i sq F k n hn]
theorem now_lost (i : Inp) (sq F : Int) (k : Nat) (n : Int) (hn : 0 ≤ n ∧ n ≤ F) (t : Nat) : nowI F (1 + n) (stB i sq k) t = { nowI F 1 (stB i sq k) t with sure := (nowI F (1 + n) (stB i sq k) t).sure } := by
  have e1 : isF F (1 + n) (stB i sq k) = isF F 1 (stB i sq k) := funext fun ch => isF_lost i sq F k n hn ch
  have e2 : dataF F (1 + n) (stB i sq k) = dataF F 1 (stB i sq k) := funext fun ch => dataF_lost i sq F k n hn ch
  unfold nowI
  rw [e1, e2]
  rfl
theorem sure_lost (i : Inp) (sq F : Int) (k : Nat) (n : Int) (hn : 0 ≤ n ∧ n ≤ F) (t : Nat) (h : (nowI F (1 + n) (stB i sq k) t).sure = true) : n = 0 := by
  have h : ((atF F (1 + n) (stB i sq k) 0).had && ((atF F (1 + n) (stB i sq k) 0).age == 0)) = true := h
  rw [Bool.and_eq_true] at h
  obtain ⟨h1, h2⟩ := h
  unfold atF at h1 h2
  by_cases hc : ((0 : Int) ≤ 0 ∧ (0 : Int) ≤ 15) ∧ (stB i sq k (0 : Int).toNat).had = true
  · rw [if_pos hc] at h2
    have h3 : min (1 + n - (stB i sq k (0 : Int).toNat).tm) (F + 1) = 0 := by simpa [Ch.age] using h2
    rcases stB_is i sq k (0 : Int).toNat with hz | hz
    · rw [hz] at hc; exact absurd hc.2 (by decide)
    · rw [hz] at h3; omega
  · rw [if_neg hc] at h1; exact absurd h1 (by decide)
/-- How many there are at most. -/
def capB (k : Nat) : Nat := if k ≤ 6 then k else if k = 7 then 6 else k - 2
theorem bB_no (i : Inp) (k : Nat) (h : k = 6 ∨ k = 7) : bB i k = [] := by
  unfold bB
  rcases h with rfl | rfl <;> rfl
theorem rowsB_cap (i : Inp) (sq : Int) : ∀ k, (rowsB i sq k).length ≤ capB k ∧ ∀ j, j < k → j ≠ 6 → j ≠ 7 → ¬ 0 < (bB i j).length → (rowsB i sq k).length + 1 ≤ capB k
  | 0 => ⟨by simp [rowsB], fun j hj => absurd hj (by omega)⟩
  | k + 1 => by
    have h := rowsB_cap i sq k
    have hb : k = 6 ∨ k = 7 → (bB i k).length = 0 := fun hk => by rw [bB_no i k hk]; rfl
    unfold rowsB
    split
    · rename_i hp
      have hk : ¬ (k = 6 ∨ k = 7) := fun hk => by have := hb hk; omega
      have hc : capB (k + 1) = capB k + 1 := by unfold capB; (repeat' split) <;> omega
      refine ⟨by rw [List.length_append, hc]; have := h.1; simpa using this, fun j hj h6 h7 hn => ?_⟩
      rw [List.length_append, hc]
      by_cases hjk : j = k
      · subst hjk; exact absurd hp hn
      · have := h.2 j (by omega) h6 h7 hn
        simpa using this
    · rename_i hp
      have hc : capB k ≤ capB (k + 1) := by unfold capB; (repeat' split) <;> omega
      refine ⟨by have := h.1; omega, fun j hj h6 h7 hn => ?_⟩
      by_cases hjk : j = k
      · subst hjk
        have hc : capB (j + 1) = capB j + 1 := by unfold capB; (repeat' split) <;> omega
        have := h.1; omega
      · have := h.2 j (by omega) h6 h7 hn
        omega
theorem told_all {i : Inp} {sq : Int} (ht : 1 ≤ i.tracks.length) (h : 6 + i.tracks.length ≤ (rowsB i sq (8 + i.tracks.length)).length) (j : Nat) (hj : j < 8 + i.tracks.length) (h6 : j ≠ 6) (h7 : j ≠ 7) : 0 < (bB i j).length := by
  apply Decidable.byContradiction
  intro hn
  have := (rowsB_cap i sq (8 + i.tracks.length)).2 j hj h6 h7 hn
  unfold capB at this
  rw [if_neg (by omega), if_neg (by omega)] at this
  omega
theorem told_is (i : Inp) (sq F : Int) (hF : 0 ≤ F) (k j : Nat) (hj : j < k) (hk : k ≤ 16) (hp : 0 < (bB i j).length) : isF F 1 (stB i sq k) (j : Int) = true ∧ dataF F 1 (stB i sq k) (j : Int) = bB i j ∧ (stB i sq k j) = ⟨true, sq % 256, 1, bB i j⟩ := by
  have e : stB i sq k j = ⟨true, sq % 256, 1, bB i j⟩ := by unfold stB; rw [if_pos ⟨hj, hp⟩]
  have f : isF F 1 (stB i sq k) (j : Int) = true := by
    unfold isF Ch.fresh
    rw [Int.toNat_natCast, e, decide_eq_true (p := (0 : Int) ≤ (j : Int) ∧ (j : Int) ≤ 15) (by omega), decide_eq_true (p := min ((1 : Int) - 1) (F + 1) ≤ F) (by omega)]
    rfl
  refine ⟨f, ?_, e⟩
  unfold dataF
  rw [f, if_pos rfl, Int.toNat_natCast, e]
theorem Inp.ext_ {a b : Inp} (h0 : a.b0 = b.b0) (h1 : a.b1 = b.b1) (h2 : a.b2 = b.b2) (h3 : a.b3 = b.b3) (hs : a.sure = b.sure) (hl : a.lamps = b.lamps) (ho : a.obst = b.obst) (hm : a.mode = b.mode) (hp : a.mains = b.mains) (hq : a.batt = b.batt) (hr : a.routes = b.routes) (ht : a.tracks = b.tracks) : a = b := by
  cases a; cases b
  simp only at h0 h1 h2 h3 hs hl ho hm hp hq hr ht
  subst h0 h1 h2 h3 hs hl ho hm hp hq hr ht
  rfl
theorem routes_told (t : Nat) (ht : 1 ≤ t ∧ t ≤ 8) (n : Int) (h0 : 0 ≤ n) (h1 : n < 2 ^ t) : sensor_Routes.f [n % 256] true (t : Int) = some n := by
  have key : ∀ t : Nat, (List.range 256).all (fun m : Nat => !(decide ((m : Int) < 2 ^ t)) || (sensor_Routes.f [(m : Int) % 256] true (t : Int) == some (m : Int))) = true → n < 256 → n < 2 ^ t → sensor_Routes.f [n % 256] true (t : Int) = some n := fun t h hn h1 => by
    have e := bytes_all (fun m : Int => !(decide (m < 2 ^ t)) || (sensor_Routes.f [m % 256] true (t : Int) == some m)) h n h0 (by omega)
    rw [decide_eq_true h1] at e
    simpa using e
  have hn : n < 256 := by
    obtain rfl | rfl | rfl | rfl | rfl | rfl | rfl | rfl : t = 1 ∨ t = 2 ∨ t = 3 ∨ t = 4 ∨ t = 5 ∨ t = 6 ∨ t = 7 ∨ t = 8 := by omega
    all_goals omega
  obtain rfl | rfl | rfl | rfl | rfl | rfl | rfl | rfl : t = 1 ∨ t = 2 ∨ t = 3 ∨ t = 4 ∨ t = 5 ∨ t = 6 ∨ t = 7 ∨ t = 8 := by omega
  all_goals exact key _ (by kernel_rfl) hn h1
theorem byte1_pos {n b : Int} (h : 0 < (byte1 n b).length) : (0 ≤ n ∧ n < b) ∧ byte1 n b = [n % 256] := by
  unfold byte1 at h ⊢
  by_cases c : 0 ≤ n ∧ n < b
  · exact ⟨c, if_pos c⟩
  · rw [if_neg c] at h; exact absurd h (by simp)
/-- What the channels are told is what the outer world is taken to be. -/
theorem now_told (i : Inp) (sq F : Int) (hF : 0 ≤ F) (ht : 1 ≤ i.tracks.length ∧ i.tracks.length ≤ 8) (h : 6 + i.tracks.length ≤ (rowsB i sq (8 + i.tracks.length)).length) (hr : 0 ≤ i.routes ∧ i.routes < 2 ^ i.tracks.length) : nowI F 1 (stB i sq (8 + i.tracks.length)) i.tracks.length = { i with sure := true } := by
  have ta := told_all ht.1 h
  have ti := fun j hj h6 h7 => told_is i sq F hF (8 + i.tracks.length) j hj (by omega) (ta j hj h6 h7)
  have t0 := ti 0 (by omega) (by omega) (by omega)
  have t1 := ti 1 (by omega) (by omega) (by omega)
  have t2 := ti 2 (by omega) (by omega) (by omega)
  have t3 := ti 3 (by omega) (by omega) (by omega)
  have t4 := ti 4 (by omega) (by omega) (by omega)
  have t5 := ti 5 (by omega) (by omega) (by omega)
  have ba : sBar (dataF F 1 (stB i sq (8 + i.tracks.length)) 0) (isF F 1 (stB i sq (8 + i.tracks.length)) 0) = (i.b0, i.b1, i.b2, i.b3) := by
    rw [show isF F 1 (stB i sq (8 + i.tracks.length)) 0 = true from t0.1, show dataF F 1 (stB i sq (8 + i.tracks.length)) 0 = bB i 0 from t0.2.1]
    obtain ⟨x, hx, hs⟩ := p0_back i (ta 0 (by omega) (by omega) (by omega))
    show (sensor_Barrier.f i.p0 true).getD _ = _
    rw [hx, hs]; rfl
  have po : sPower (dataF F 1 (stB i sq (8 + i.tracks.length)) 4) (isF F 1 (stB i sq (8 + i.tracks.length)) 4) = (i.mains, i.batt) := by
    rw [show isF F 1 (stB i sq (8 + i.tracks.length)) 4 = true from t4.1, show dataF F 1 (stB i sq (8 + i.tracks.length)) 4 = bB i 4 from t4.2.1]
    show (sensor_Power.f [bn i.mains + 2 * bn i.batt] true).getD _ = _
    rw [power_back]; rfl
  refine Inp.ext_ ?_ ?_ ?_ ?_ ?_ ?_ ?_ ?_ ?_ ?_ ?_ ?_
  · show (sBar _ _).1 = _; rw [ba]
  · show (sBar _ _).2.1 = _; rw [ba]
  · show (sBar _ _).2.2.1 = _; rw [ba]
  · show (sBar _ _).2.2.2 = _; rw [ba]
  · show ((atF F 1 (stB i sq (8 + i.tracks.length)) 0).had && ((atF F 1 (stB i sq (8 + i.tracks.length)) 0).age == 0)) = true
    have e : stB i sq (8 + i.tracks.length) (0 : Int).toNat = ⟨true, sq % 256, 1, bB i 0⟩ := t0.2.2
    unfold atF Ch.age
    rw [e, if_pos ⟨by omega, rfl⟩]
    show (true && (min ((1 : Int) - 1) (F + 1) == 0)) = true
    rw [show min ((1 : Int) - 1) (F + 1) = 0 by omega]; rfl
  · show sLamps (dataF F 1 (stB i sq (8 + i.tracks.length)) 1) (isF F 1 (stB i sq (8 + i.tracks.length)) 1) = i.lamps
    rw [show isF F 1 (stB i sq (8 + i.tracks.length)) 1 = true from t1.1, show dataF F 1 (stB i sq (8 + i.tracks.length)) 1 = bB i 1 from t1.2.1]
    show (sensor_Lamps.f [bn i.lamps] true).getD _ = _
    rw [lamps_back]; rfl
  · show sObst (dataF F 1 (stB i sq (8 + i.tracks.length)) 2) (isF F 1 (stB i sq (8 + i.tracks.length)) 2) = i.obst
    rw [show isF F 1 (stB i sq (8 + i.tracks.length)) 2 = true from t2.1, show dataF F 1 (stB i sq (8 + i.tracks.length)) 2 = bB i 2 from t2.2.1]
    show (sensor_Obstacle.f [bn i.obst] true).getD _ = _
    rw [obst_back]; rfl
  · show sMode (dataF F 1 (stB i sq (8 + i.tracks.length)) 3) (isF F 1 (stB i sq (8 + i.tracks.length)) 3) = i.mode
    rw [show isF F 1 (stB i sq (8 + i.tracks.length)) 3 = true from t3.1, show dataF F 1 (stB i sq (8 + i.tracks.length)) 3 = bB i 3 from t3.2.1]
    have hb := byte1_pos (n := i.mode) (b := 3) (ta 3 (by omega) (by omega) (by omega))
    show (sensor_Mode.f (byte1 i.mode 3) true).getD _ = _
    rw [hb.2, mode_back _ hb.1.1 hb.1.2]; rfl
  · show (sPower _ _).1 = _; rw [po]
  · show (sPower _ _).2 = _; rw [po]
  · show sRoutes (dataF F 1 (stB i sq (8 + i.tracks.length)) 5) (isF F 1 (stB i sq (8 + i.tracks.length)) 5) (i.tracks.length : Int) = i.routes
    rw [show isF F 1 (stB i sq (8 + i.tracks.length)) 5 = true from t5.1, show dataF F 1 (stB i sq (8 + i.tracks.length)) 5 = bB i 5 from t5.2.1]
    have hb := byte1_pos (n := i.routes) (b := 256) (ta 5 (by omega) (by omega) (by omega))
    show (sensor_Routes.f (byte1 i.routes 256) true _).getD _ = _
    rw [hb.2, routes_told _ ht _ hr.1 hr.2]; rfl
  · show tracksOf (dataF F 1 (stB i sq (8 + i.tracks.length))) (isF F 1 (stB i sq (8 + i.tracks.length))) i.tracks.length = i.tracks
    apply List.ext_getElem (tracksOf_len _ _ _)
    intro j h1 h2
    simp only [tracksOf, List.getElem_map, List.getElem_range]
    have tj := ti (8 + j) (by omega) (by omega) (by omega)
    have hp := ta (8 + j) (by omega) (by omega) (by omega)
    rw [show (8 : Int) + (j : Int) = ((8 + j : Nat) : Int) by omega, tj.1, tj.2.1]
    have hbB : bB i (8 + j) = trackB i.tracks[j] := by
      unfold bB
      rw [if_neg (by omega), if_neg (by omega), if_neg (by omega), if_neg (by omega), if_neg (by omega), if_neg (by omega), if_neg (by omega)]
      rw [show (8 + j - 8 : Nat) = j by omega]
      unfold rd_T48
      rw [Int.toNat_natCast, List.getD_eq_getElem?_getD, List.getElem?_eq_getElem h2]; rfl
    rw [hbB] at hp ⊢
    have hk := (trackB_back _ hp).2
    unfold sCnt
    rw [hk]
    rfl
end Go.Proofs.YtfijlaahifeimaaDoor.PE
/- inputs: an argument that says what the outer world is, opened. -/
namespace Go.Proofs.YtfijlaahifeimaaDoor.PE
open Go.RowKit Go.Proofs.YtfijlaahifeimaaDoorW.PrintWords Go.Proofs.YtfijlaahifeimaaDoor.Open Go.ChangeShapes Go.WideShapes Go.ChangeAt Go.Proofs.YtfijlaahifeimaaDoor.PS
set_option linter.unusedVariables false
abbrev kI : Kd Int := Kd.int .i64
abbrev kB4 : Kd (Bool × Bool × Bool × Bool) := Kd.pair Kd.bool (Kd.pair Kd.bool (Kd.pair Kd.bool Kd.bool))
abbrev kInp : Kd ((Bool × Bool × Bool × Bool) × Bool × Bool × Bool × Int × Bool × Bool × Int × List S48) := Kd.pair kB4 (Kd.pair Kd.bool (Kd.pair Kd.bool (Kd.pair Kd.bool (Kd.pair kI (Kd.pair Kd.bool (Kd.pair Kd.bool (Kd.pair kI (Kd.slice 48 k48))))))))
theorem dec48 {H : Type} {enc : TypeId × Value → H} {W : World} : ∃ ok, Dec enc Tryd.prog W k48 48 ok :=
  ⟨_, Dec.iso (Dec.struct Tryd.underlying48 (total := 5) (by kernel_rfl) (DecF.cons (o := 0) rfl (by kernel_rfl) (Dec.bool Tryd.underlying4) (DecF.cons rfl (by kernel_rfl) (Dec.int Tryd.underlying3) (DecF.cons rfl (by kernel_rfl) (Dec.int Tryd.underlying3) (DecF.cons rfl (by kernel_rfl) (Dec.int Tryd.underlying3) (DecF.last rfl (by kernel_rfl) (Dec.int Tryd.underlying3))))))) _ (fun x => ⟨x.1, x.2.1, x.2.2.1, x.2.2.2.1, x.2.2.2.2⟩) (fun _ => rfl)⟩
theorem decB4 {H : Type} {enc : TypeId × Value → H} {W : World} : ∃ ok, Dec enc Tryd.prog W kB4 33 ok :=
  ⟨_, Dec.struct Tryd.underlying33 (total := 4) (by kernel_rfl) (DecF.cons (o := 0) rfl (by kernel_rfl) (Dec.bool Tryd.underlying4) (DecF.cons rfl (by kernel_rfl) (Dec.bool Tryd.underlying4) (DecF.cons rfl (by kernel_rfl) (Dec.bool Tryd.underlying4) (DecF.last rfl (by kernel_rfl) (Dec.bool Tryd.underlying4)))))⟩
theorem decInp {H : Type} {enc : TypeId × Value → H} {W : World} : ∃ ok, Dec enc Tryd.prog W kInp 36 ok := by
  obtain ⟨ok1, h1⟩ := decB4 (enc := enc) (W := W)
  obtain ⟨ok2, h2⟩ := dec48 (enc := enc) (W := W)
  have hb : Dec enc Tryd.prog W Kd.bool 4 (fun _ => True) := Dec.bool Tryd.underlying4
  have hi : Dec enc Tryd.prog W kI 3 (fun n => (Lit.int .i64 n).wf = true) := Dec.int Tryd.underlying3
  have hs : Dec enc Tryd.prog W (Kd.slice 48 k48) 34 _ := Dec.slice (t := 34) (e := 48) Tryd.underlying34 (by kernel_rfl) h2
  exact ⟨_, Dec.struct Tryd.underlying36 (total := 12) (by kernel_rfl) (DecF.cons (o := 0) rfl (by kernel_rfl) h1 (DecF.cons rfl (by kernel_rfl) hb (DecF.cons rfl (by kernel_rfl) hb (DecF.cons rfl (by kernel_rfl) hb (DecF.cons rfl (by kernel_rfl) hi (DecF.cons rfl (by kernel_rfl) hb (DecF.cons rfl (by kernel_rfl) hb (DecF.cons rfl (by kernel_rfl) hi (DecF.last rfl (by kernel_rfl) hs)))))))))⟩
set_option maxRecDepth 100000 in
theorem openInp {H : Type} {enc : TypeId × Value → H} {W : World} {base : Nat} {v : Value} {d : DataW H} {p : List MemPlace} (hw : Value.okWide Tryd.prog W .any base 36 v) (h : DataW.Trod enc Tryd.prog W 0 (fun _ => true) true 36 v d p) :
    ∃ (i : Inp) (A : Option Addr) (c : Nat), v = i.val (.slice A i.tracks.length c) ∧ i.tracks.length ≤ c ∧ Kd.C k48 W A i.tracks.length i.tracks := by
  obtain ⟨cs, rfl, _⟩ := okWide_struct Tryd.underlying36 hw
  obtain ⟨ok, hd⟩ := decInp (enc := enc) (W := W)
  obtain ⟨⟨⟨b0, b1, b2, b3⟩, su, la, ob, mo, ma, ba, ro, tr⟩, hk, _⟩ := hd.value h
  obtain ⟨cb, _, e, hb, ⟨_, _, rfl, rfl, ⟨_, _, rfl, rfl, ⟨_, _, rfl, rfl, ⟨_, _, rfl, rfl, ⟨_, _, rfl, rfl, ⟨_, _, rfl, rfl, ⟨_, _, rfl, rfl, ⟨A, c, rfl, hl, hC⟩⟩⟩⟩⟩⟩⟩⟩⟩ := hk
  obtain ⟨_, _, rfl, rfl, ⟨_, _, rfl, rfl, ⟨_, _, rfl, rfl, rfl⟩⟩⟩ := hb
  refine ⟨⟨b0, b1, b2, b3, su, la, ob, mo, ma, ba, ro, tr⟩, A, c, ?_, hl, hC⟩
  have e2 : cs.toList = _ := e
  rw [← Array.toArray_toList (xs := cs), e2]
  rfl
end Go.Proofs.YtfijlaahifeimaaDoor.PE
