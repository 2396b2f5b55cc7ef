/- What is printed of a channel is read as it was: plain laws. -/
import Derived.Test.YthefjcpddiggkaaHSmall
import Derived.Test.YthefjcpddiggkaaHPure
namespace Go.Proofs.Ythefjcpddiggkaa.PS
open Go.RowKit Go.Proofs.YthefjcpddiggkaaW.PrintWords Go.Proofs.YthefjcpddiggkaaW.PrintLast Go.Proofs.YthefjcpddiggkaaW.PrintMore
set_option linter.unusedVariables false
set_option linter.unusedSimpArgs false

/-- Inputs. -/
structure Inp where
  b0 : Bool
  b1 : Bool
  b2 : Bool
  b3 : Bool
  sure : Bool
  lamps : Bool
  obst : Bool
  mode : Int
  mains : Bool
  batt : Bool
  routes : Int
  tracks : List S33
def Inp.prt (i : Inp) (ch : Int) : Option (List Int) := sensor_Print.f 9 i.b0 i.b1 i.b2 i.b3 i.sure i.lamps i.obst i.mode i.mains i.batt i.routes i.tracks ch
def bn (b : Bool) : Int := if b = true then 1 else 0
def Inp.p0 (i : Inp) : List Int := if (i.b0 && i.b1 || i.b2 && i.b3) = true then [] else [bn i.b0 + 2 * bn i.b1 + 4 * bn i.b2 + 8 * bn i.b3]
theorem prt0 (i : Inp) : i.prt 0 = some i.p0 := by
  obtain ⟨b0, b1, b2, b3, su, la, ob, mo, ma, ba, ro, tr⟩ := i
  cases b0 <;> cases b1 <;> cases b2 <;> cases b3 <;> (show _ = _; kernel_rfl)
theorem p0_back (i : Inp) (h : 0 < i.p0.length) : ∃ x, i.p0 = [x] ∧ sensor_Barrier.f [x] true = some (i.b0, i.b1, i.b2, i.b3) := by
  obtain ⟨b0, b1, b2, b3, su, la, ob, mo, ma, ba, ro, tr⟩ := i
  revert h
  unfold Inp.p0
  cases b0 <;> cases b1 <;> cases b2 <;> cases b3 <;> first | (intro h; simp at h; done) | (intro _; refine ⟨_, rfl, ?_⟩; kernel_rfl)
theorem prt1 (i : Inp) : i.prt 1 = some [bn i.lamps] := by
  obtain ⟨b0, b1, b2, b3, su, la, ob, mo, ma, ba, ro, tr⟩ := i
  cases la <;> (show _ = _; kernel_rfl)
theorem prt2 (i : Inp) : i.prt 2 = some [bn i.obst] := by
  obtain ⟨b0, b1, b2, b3, su, la, ob, mo, ma, ba, ro, tr⟩ := i
  cases ob <;> (show _ = _; kernel_rfl)
theorem prt4 (i : Inp) : i.prt 4 = some [bn i.mains + 2 * bn i.batt] := by
  obtain ⟨b0, b1, b2, b3, su, la, ob, mo, ma, ba, ro, tr⟩ := i
  cases ma <;> cases ba <;> (show _ = _; kernel_rfl)
theorem prt3 (i : Inp) : i.prt 3 = sensor_number.f i.mode 3 := by
  have e : ∀ o : Option (List Int), (o.bind fun t => some t) = o := fun o => by cases o <;> rfl
  exact (show i.prt 3 = (sensor_number.f i.mode 3).bind fun t => some t by kernel_rfl).trans (e _)
theorem prt5 (i : Inp) : i.prt 5 = sensor_number.f i.routes 256 := by
  have e : ∀ o : Option (List Int), (o.bind fun t => some t) = o := fun o => by cases o <;> rfl
  exact (show i.prt 5 = (sensor_number.f i.routes 256).bind fun t => some t by kernel_rfl).trans (e _)
theorem lamps_back (b : Bool) : sensor_Lamps.f [bn b] true = some b := by cases b <;> (show _ = _; kernel_rfl)
theorem obst_back (b : Bool) : sensor_Obstacle.f [bn b] true = some b := by cases b <;> (show _ = _; kernel_rfl)
theorem power_back (a b : Bool) : sensor_Power.f [bn a + 2 * bn b] true = some (a, b) := by cases a <;> cases b <;> (show _ = _; kernel_rfl)
/-- A number as a byte: what it is. -/
theorem number_is (n b : Int) : sensor_number.f n b = some (if 0 ≤ n ∧ n < b then [n % 256] else []) := by
  unfold sensor_number.f
  by_cases h1 : n < 0
  · rw [if_pos h1, if_neg (by omega)]
  · rw [if_neg h1]
    by_cases h2 : n ≥ b
    · rw [if_pos h2, if_neg (by omega)]
    · rw [if_neg h2, if_pos (by omega)]
theorem mode_back (m : Int) (h0 : 0 ≤ m) (h1 : m < 3) : sensor_Mode.f [m % 256] true = some m := by
  obtain rfl | rfl | rfl : m = 0 ∨ m = 1 ∨ m = 2 := by omega
  · kernel_rfl
  · kernel_rfl
  · kernel_rfl
theorem routes_back (n : Int) (h0 : 0 ≤ n) (h1 : n < 256) : sensor_Routes.f [n % 256] true 8 = some n := by
  have e := bytes_all (fun n => sensor_Routes.f [n % 256] true 8 == some n) (by kernel_rfl) n h0 (by omega)
  simpa using e
theorem concat_flat (ls : List (List Int)) (hl : ls.length = 4) (hs : ∀ l ∈ ls, l.length ≤ 1) : slices_Concat_byte_byte.f 8 ls = some ls.flatten := by
  match ls, hl with
  | [a, b, c, d], _ =>
    have ha := hs a (by simp)
    have hb := hs b (by simp)
    have hc := hs c (by simp)
    have hd := hs d (by simp)
    unfold slices_Concat_byte_byte.f
    have r0 : rd_L1 [a, b, c, d] 0 = a := rfl
    have r1 : rd_L1 [a, b, c, d] 1 = b := rfl
    have r2 : rd_L1 [a, b, c, d] 2 = c := rfl
    have r3 : rd_L1 [a, b, c, d] 3 = d := rfl
    have w1 : wrap64 (0 + 1) = 1 := by unfold wrap64; omega
    have w2 : wrap64 (1 + 1) = 2 := by unfold wrap64; omega
    have w3 : wrap64 (2 + 1) = 3 := by unfold wrap64; omega
    have w4 : wrap64 (3 + 1) = 4 := by unfold wrap64; omega
    simp only [slices_Concat_byte_byte.l0, List.length_cons, List.length_nil]
    rw [if_pos (by omega), if_pos (by omega), if_pos (by omega), r0, if_pos (by simp; omega), w1]
    rw [if_pos (by omega), if_pos (by omega), if_pos (by omega), r1, if_pos (by simp; omega), w2]
    rw [if_pos (by omega), if_pos (by omega), if_pos (by omega), r2, if_pos (by simp; omega), w3]
    rw [if_pos (by omega), if_pos (by omega), if_pos (by omega), r3, if_pos (by simp; omega), w4]
    rw [if_neg (by omega)]
    simp
/-- What is printed of a track: its bytes, if it has them. -/
def trackB (s : S33) : List Int := if s.f0 = true ∧ (0 ≤ s.f1 ∧ s.f1 < 256) ∧ (0 ≤ s.f2 ∧ s.f2 < 256) ∧ (0 ≤ s.f3 ∧ s.f3 < 3) ∧ 0 ≤ s.f4 ∧ s.f4 < 4 then [s.f1, s.f2, s.f3, s.f4] else []
theorem track_is (s : S33) : sensor_track.f 8 s.f0 s.f1 s.f2 s.f3 s.f4 = some (trackB s) := by
  unfold sensor_track.f
  rw [number_is, number_is, number_is, number_is]
  simp only [Option.bind_some]
  rw [concat_flat _ rfl (by
    intro l hl
    simp only [List.mem_cons, List.not_mem_nil, or_false] at hl
    rcases hl with rfl | rfl | rfl | rfl <;> (split <;> simp))]
  simp only [Option.bind_some]
  unfold trackB
  by_cases h0 : s.f0 = true
  · rw [if_pos h0]
    by_cases h1 : 0 ≤ s.f1 ∧ s.f1 < 256
    · rw [if_pos h1]
      by_cases h2 : 0 ≤ s.f2 ∧ s.f2 < 256
      · rw [if_pos h2]
        by_cases h3 : 0 ≤ s.f3 ∧ s.f3 < 3
        · rw [if_pos h3]
          by_cases h4 : 0 ≤ s.f4 ∧ s.f4 < 4
          · rw [if_pos h4, if_pos (show (s.f0 = true ∧ (0 ≤ s.f1 ∧ s.f1 < 256) ∧ (0 ≤ s.f2 ∧ s.f2 < 256) ∧ (0 ≤ s.f3 ∧ s.f3 < 3) ∧ 0 ≤ s.f4 ∧ s.f4 < 4) from ⟨h0, h1, h2, h3, h4⟩)]
            simp
            omega
          · rw [if_neg h4, if_neg (show ¬ (s.f0 = true ∧ (0 ≤ s.f1 ∧ s.f1 < 256) ∧ (0 ≤ s.f2 ∧ s.f2 < 256) ∧ (0 ≤ s.f3 ∧ s.f3 < 3) ∧ 0 ≤ s.f4 ∧ s.f4 < 4) from fun h => h4 h.2.2.2.2)]
            simp
        · rw [if_neg h3, if_neg (show ¬ (s.f0 = true ∧ (0 ≤ s.f1 ∧ s.f1 < 256) ∧ (0 ≤ s.f2 ∧ s.f2 < 256) ∧ (0 ≤ s.f3 ∧ s.f3 < 3) ∧ 0 ≤ s.f4 ∧ s.f4 < 4) from fun h => h3 h.2.2.2.1)]
          by_cases h4 : 0 ≤ s.f4 ∧ s.f4 < 4
          · rw [if_pos h4]; simp
          · rw [if_neg h4]; simp
      · rw [if_neg h2, if_neg (show ¬ (s.f0 = true ∧ (0 ≤ s.f1 ∧ s.f1 < 256) ∧ (0 ≤ s.f2 ∧ s.f2 < 256) ∧ (0 ≤ s.f3 ∧ s.f3 < 3) ∧ 0 ≤ s.f4 ∧ s.f4 < 4) from fun h => h2 h.2.2.1)]
        by_cases h3 : 0 ≤ s.f3 ∧ s.f3 < 3
        · rw [if_pos h3]
          by_cases h4 : 0 ≤ s.f4 ∧ s.f4 < 4
          · rw [if_pos h4]; simp
          · rw [if_neg h4]; simp
        · rw [if_neg h3]
          by_cases h4 : 0 ≤ s.f4 ∧ s.f4 < 4
          · rw [if_pos h4]; simp
          · rw [if_neg h4]; simp
    · rw [if_neg h1, if_neg (show ¬ (s.f0 = true ∧ (0 ≤ s.f1 ∧ s.f1 < 256) ∧ (0 ≤ s.f2 ∧ s.f2 < 256) ∧ (0 ≤ s.f3 ∧ s.f3 < 3) ∧ 0 ≤ s.f4 ∧ s.f4 < 4) from fun h => h1 h.2.1)]
      have hlen : ∀ (p : Prop) [Decidable p] (x : Int), (if p then [x] else []).length ≤ 1 := fun p _ x => by split <;> simp
      rw [if_neg]
      simp only [List.flatten_cons, List.flatten_nil, List.length_append, List.length_nil, List.append_nil, List.nil_append]
      have a := hlen (0 ≤ s.f2 ∧ s.f2 < 256) (s.f2 % 256)
      have b := hlen (0 ≤ s.f3 ∧ s.f3 < 3) (s.f3 % 256)
      have c := hlen (0 ≤ s.f4 ∧ s.f4 < 4) (s.f4 % 256)
      omega
  · rw [if_neg h0, if_neg (show ¬ (s.f0 = true ∧ (0 ≤ s.f1 ∧ s.f1 < 256) ∧ (0 ≤ s.f2 ∧ s.f2 < 256) ∧ (0 ≤ s.f3 ∧ s.f3 < 3) ∧ 0 ≤ s.f4 ∧ s.f4 < 4) from fun h => h0 h.1)]
theorem prtT (i : Inp) (j : Nat) (h : j < i.tracks.length) (hj : j < 1000) : i.prt ((8 : Int) + j) = some (trackB (rd_T33 i.tracks j)) := by
  unfold Inp.prt sensor_Print.f
  have w : wrap64 ((8 : Int) + j - 8) = j := by unfold wrap64; omega
  rw [if_pos (by omega), w]
  have d : decide ((j : Int) < (i.tracks.length : Int)) = true := decide_eq_true (by omega)
  rw [d]
  simp only [sensor_Print.j0, if_true, w]
  rw [if_pos (by omega), if_pos (by omega), track_is]
  rfl
theorem trackB_back (s : S33) (h : 0 < (trackB s).length) : trackB s = [s.f1, s.f2, s.f3, s.f4] ∧ sensor_Counts.f (trackB s) true = some (s.f0, s.f1, s.f2, s.f3, s.f4) := by
  unfold trackB at h ⊢
  by_cases c : s.f0 = true ∧ (0 ≤ s.f1 ∧ s.f1 < 256) ∧ (0 ≤ s.f2 ∧ s.f2 < 256) ∧ (0 ≤ s.f3 ∧ s.f3 < 3) ∧ 0 ≤ s.f4 ∧ s.f4 < 4
  · rw [if_pos c] at h ⊢
    refine ⟨rfl, ?_⟩
    rw [counts_four _ _ _ _ (by omega) (by omega) (by omega) (by omega), if_pos (by omega), c.1]
  · rw [if_neg c] at h
    simp at h
end Go.Proofs.Ythefjcpddiggkaa.PS
