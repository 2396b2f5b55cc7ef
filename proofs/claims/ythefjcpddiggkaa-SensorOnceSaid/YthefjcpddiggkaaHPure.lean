/- Plain laws of what the sensor's functions compute: of what is no single byte, and of each byte. -/
import Derived.Test.YthefjcpddiggkaaPSx7
namespace Go.Proofs.Ythefjcpddiggkaa.PS
open Go.RowKit Go.Proofs.YthefjcpddiggkaaW.PrintWords Go.Proofs.YthefjcpddiggkaaW.PrintLast Go.Proofs.YthefjcpddiggkaaW.PrintMore
set_option linter.unusedVariables false
set_option linter.unusedSimpArgs false

/-- No single byte is told. -/
def NoOne (l : List Int) (ok : Bool) : Prop := ¬ (ok = true ∧ l.length = 1)
theorem single_no {l : List Int} {ok : Bool} (h : NoOne l ok) (b : Int) : sensor_single.f l ok b = some (0, false) := by
  unfold sensor_single.f
  by_cases c1 : ok = true
  · have : ¬ (l.length : Int) = 1 := fun e => h ⟨c1, by omega⟩
    rw [if_pos c1, if_neg this]
  · rw [if_neg c1]
theorem power_no {l : List Int} {ok : Bool} (h : NoOne l ok) : sensor_Power.f l ok = some (false, false) := by
  unfold sensor_Power.f; rw [single_no h]; rfl
theorem barrier_no {l : List Int} {ok : Bool} (h : NoOne l ok) : sensor_Barrier.f l ok = some (false, false, false, false) := by
  unfold sensor_Barrier.f; rw [single_no h]; rfl
theorem lamps_no {l : List Int} {ok : Bool} (h : NoOne l ok) : sensor_Lamps.f l ok = some false := by
  unfold sensor_Lamps.f; rw [single_no h]; rfl
theorem obstacle_no {l : List Int} {ok : Bool} (h : NoOne l ok) : sensor_Obstacle.f l ok = some true := by
  unfold sensor_Obstacle.f; rw [single_no h]; rfl
theorem mode_no {l : List Int} {ok : Bool} (h : NoOne l ok) : sensor_Mode.f l ok = some 1 := by
  unfold sensor_Mode.f; rw [single_no h]; rfl
theorem routes_no {l : List Int} {ok : Bool} (h : NoOne l ok) (t : Int) : sensor_Routes.f l ok t = some 0 := by
  unfold sensor_Routes.f; rw [single_no h]; rfl
theorem byte_wf {x : Int} (h : (Lit.int .u8 x).wf = true) : 0 ≤ x ∧ x ≤ 255 := by
  have e1 : IntKind.u8.min = 0 := rfl
  have e2 : IntKind.u8.max = 255 := rfl
  simp [Lit.wf, e1, e2] at h
  omega
/-- Either no single byte is told, or just one. -/
theorem one_or (l : List Int) (ok : Bool) (hb : ∀ x ∈ l, (Lit.int .u8 x).wf = true) : NoOne l ok ∨ (ok = true ∧ ∃ x : Int, l = [x] ∧ 0 ≤ x ∧ x ≤ 255) := by
  by_cases c : ok = true ∧ l.length = 1
  · obtain ⟨c1, c2⟩ := c
    match l, c2 with
    | [x], _ =>
      have := hb x (by simp)
      have hx := byte_wf this
      exact .inr ⟨c1, x, rfl, hx⟩
  · exact .inl c
/-- What holds of each number below 256 by reckoning holds of each byte. -/
theorem bytes_all (P : Int → Bool) (h : (List.range 256).all (fun n => P (n : Int)) = true) (x : Int) (h0 : 0 ≤ x) (h1 : x ≤ 255) : P x = true := by
  have := List.all_eq_true.1 h x.toNat (List.mem_range.2 (by omega))
  rwa [Int.toNat_of_nonneg h0] at this
/-- Counts of what has not four bytes, or is not told. -/
theorem counts_no {l : List Int} {ok : Bool} (h : ¬ (ok = true ∧ l.length = 4)) : sensor_Counts.f l ok = some (false, 0, 0, 0, 0) := by
  unfold sensor_Counts.f
  by_cases c1 : ok = true
  · have : ¬ (l.length : Int) = 4 := fun e => h ⟨c1, by omega⟩
    rw [if_pos c1, if_neg this]
  · rw [if_neg c1]
theorem wrap_byte {x : Int} (h0 : 0 ≤ x) (h1 : x ≤ 255) : wrap64 x = x := by unfold wrap64; omega
theorem counts_four (a b c d : Int) (ha : 0 ≤ a ∧ a ≤ 255) (hb : 0 ≤ b ∧ b ≤ 255) (hc : 0 ≤ c ∧ c ≤ 255) (hd : 0 ≤ d ∧ d ≤ 255) :
    sensor_Counts.f [a, b, c, d] true = if c ≤ 2 ∧ d ≤ 3 then some (true, a, b, c, d) else some (false, 0, 0, 0, 0) := by
  unfold sensor_Counts.f
  rw [if_pos rfl, if_pos (by rfl), if_pos (by simp)]
  have e0 : rd [a, b, c, d] 0 = a := rfl
  have e1 : rd [a, b, c, d] 1 = b := rfl
  have e2 : rd [a, b, c, d] 2 = c := rfl
  have e3 : rd [a, b, c, d] 3 = d := rfl
  rw [e0, e1, e2, e3, wrap_byte ha.1 ha.2, wrap_byte hb.1 hb.2, wrap_byte hc.1 hc.2, wrap_byte hd.1 hd.2]
  by_cases c1 : c ≥ 3
  · rw [if_pos c1, if_neg (by omega)]
  · rw [if_neg c1, if_pos (by simp)]
    by_cases c2 : d ≥ 4
    · rw [if_pos c2, if_neg (by omega)]
    · rw [if_neg c2, if_pos (by simp), if_pos (by simp), if_pos (by omega)]
theorem four_or (l : List Int) (ok : Bool) (hb : ∀ x ∈ l, (Lit.int .u8 x).wf = true) : ¬ (ok = true ∧ l.length = 4) ∨ (ok = true ∧ ∃ a b c d : Int, l = [a, b, c, d] ∧ (0 ≤ a ∧ a ≤ 255) ∧ (0 ≤ b ∧ b ≤ 255) ∧ (0 ≤ c ∧ c ≤ 255) ∧ (0 ≤ d ∧ d ≤ 255)) := by
  by_cases c : ok = true ∧ l.length = 4
  · obtain ⟨c1, c2⟩ := c
    match l, c2 with
    | [a, b, c, d], _ =>
      have h : ∀ x ∈ [a, b, c, d], 0 ≤ x ∧ x ≤ 255 := fun x hx => byte_wf (hb x hx)
      exact .inr ⟨c1, a, b, c, d, rfl, h a (by simp), h b (by simp), h c (by simp), h d (by simp)⟩
  · exact .inl c
end Go.Proofs.Ythefjcpddiggkaa.PS
