/- What channels say: the sensor's functions and the reference's return the same of any bytes. -/
import Derived.Test.YthefjcpddiggkaaPSx8
import Derived.Test.YthefjcpddiggkaaHPure
namespace Go.Proofs.Ythefjcpddiggkaa.PS
open Go.RowKit Go.Proofs.YthefjcpddiggkaaW.PrintWords Go.Proofs.YthefjcpddiggkaaW.PrintLast Go.Proofs.YthefjcpddiggkaaW.PrintMore
set_option linter.unusedVariables false
set_option linter.unusedSimpArgs false

theorem rone_no {l : List Int} {ok : Bool} (h : NoOne l ok) : crossbuckref13_one.f l ok = some (-1) := by
  unfold crossbuckref13_one.f
  by_cases c1 : ok = true
  · have : ¬ (l.length : Int) = 1 := fun e => h ⟨c1, by omega⟩
    rw [if_pos c1, if_neg this]
  · rw [if_neg c1]
def sameO {α : Type} [BEq α] (a b : Option α) : Bool := match a, b with | some x, some y => x == y | _, _ => false
theorem sameO_of {α : Type} [BEq α] [LawfulBEq α] {a b : Option α} (h : sameO a b = true) : ∃ x, a = some x ∧ b = some x := by
  cases a <;> cases b <;> simp_all [sameO]
theorem power_same (l : List Int) (ok : Bool) (hb : ∀ x ∈ l, (Lit.int .u8 x).wf = true) : ∃ a b, sensor_Power.f l ok = some (a, b) ∧ crossbuckref13_Power.f l ok = some (a, b) := by
  rcases one_or l ok hb with h | ⟨rfl, x, rfl, h0, h1⟩
  · exact ⟨_, _, power_no h, by unfold crossbuckref13_Power.f; rw [rone_no h]; rfl⟩
  · obtain ⟨⟨a, b⟩, e⟩ := sameO_of (bytes_all (fun x => sameO (sensor_Power.f [x] true) (crossbuckref13_Power.f [x] true)) (by kernel_rfl) x h0 h1)
    exact ⟨a, b, e⟩
theorem barrier_same (l : List Int) (ok : Bool) (hb : ∀ x ∈ l, (Lit.int .u8 x).wf = true) : ∃ a b c d, sensor_Barrier.f l ok = some (a, b, c, d) ∧ crossbuckref13_Barrier.f 0 l ok = some (a, b, c, d) := by
  rcases one_or l ok hb with h | ⟨rfl, x, rfl, h0, h1⟩
  · exact ⟨_, _, _, _, barrier_no h, by unfold crossbuckref13_Barrier.f; rw [rone_no h]; rfl⟩
  · obtain ⟨⟨a, b, c, d⟩, e⟩ := sameO_of (bytes_all (fun x => sameO (sensor_Barrier.f [x] true) (crossbuckref13_Barrier.f 0 [x] true)) (by kernel_rfl) x h0 h1)
    exact ⟨a, b, c, d, e⟩
theorem lamps_same (l : List Int) (ok : Bool) (hb : ∀ x ∈ l, (Lit.int .u8 x).wf = true) : ∃ a, sensor_Lamps.f l ok = some a ∧ crossbuckref13_Lamps.f l ok = some a := by
  rcases one_or l ok hb with h | ⟨rfl, x, rfl, h0, h1⟩
  · exact ⟨_, lamps_no h, by unfold crossbuckref13_Lamps.f; rw [rone_no h]; rfl⟩
  · exact sameO_of (bytes_all (fun x => sameO (sensor_Lamps.f [x] true) (crossbuckref13_Lamps.f [x] true)) (by kernel_rfl) x h0 h1)
theorem obstacle_same (l : List Int) (ok : Bool) (hb : ∀ x ∈ l, (Lit.int .u8 x).wf = true) : ∃ a, sensor_Obstacle.f l ok = some a ∧ crossbuckref13_Obstacle.f l ok = some a := by
  rcases one_or l ok hb with h | ⟨rfl, x, rfl, h0, h1⟩
  · exact ⟨_, obstacle_no h, by unfold crossbuckref13_Obstacle.f; rw [rone_no h]; rfl⟩
  · exact sameO_of (bytes_all (fun x => sameO (sensor_Obstacle.f [x] true) (crossbuckref13_Obstacle.f [x] true)) (by kernel_rfl) x h0 h1)
theorem mode_same (l : List Int) (ok : Bool) (hb : ∀ x ∈ l, (Lit.int .u8 x).wf = true) : ∃ a, sensor_Mode.f l ok = some a ∧ crossbuckref13_Mode.f l ok = some a := by
  rcases one_or l ok hb with h | ⟨rfl, x, rfl, h0, h1⟩
  · exact ⟨_, mode_no h, by unfold crossbuckref13_Mode.f; rw [rone_no h]; rfl⟩
  · exact sameO_of (bytes_all (fun x => sameO (sensor_Mode.f [x] true) (crossbuckref13_Mode.f [x] true)) (by kernel_rfl) x h0 h1)
theorem counts_same (l : List Int) (ok : Bool) (hb : ∀ x ∈ l, (Lit.int .u8 x).wf = true) : ∃ a b c d e, sensor_Counts.f l ok = some (a, b, c, d, e) ∧ crossbuckref13_Counts.f l ok = some (a, b, c, d, e) := by
  have e : crossbuckref13_Counts.f l ok = sensor_Counts.f l ok := by
    unfold crossbuckref13_Counts.f sensor_Counts.f
    have e1 : (rd l 2 > 2) = (rd l 2 ≥ 3) := propext (by omega)
    have e2 : (rd l 3 > 3) = (rd l 3 ≥ 4) := propext (by omega)
    simp only [e1, e2]
  rw [e]
  rcases four_or l ok hb with h | ⟨rfl, a, b, c, d, rfl, ha, hb, hc, hd⟩
  · exact ⟨_, _, _, _, _, counts_no h, counts_no h⟩
  · rw [counts_four a b c d ha hb hc hd]
    split
    · exact ⟨_, _, _, _, _, rfl, rfl⟩
    · exact ⟨_, _, _, _, _, rfl, rfl⟩
/-- The bound of routes, and the reference's, of 0 to 8 tracks. -/
theorem routes_tab : ∀ t : Int, 0 ≤ t → t ≤ 8 → ∀ x : Int, -1 ≤ x → x ≤ 255 →
    sameO (some (if x < 0 then 0 else if x ≥ 2 ^ t.toNat then 0 else x)) (crossbuckref13_Routes.l0 10 t x 1 0) = true := by
  intro t h0 h1 x hx hy
  have h := List.all_eq_true.1 (show (List.range 9).all (fun t => (List.range 257).all fun x => sameO (some (if ((x : Int) - 1) < 0 then 0 else if ((x : Int) - 1) ≥ 2 ^ ((t : Int)).toNat then 0 else ((x : Int) - 1))) (crossbuckref13_Routes.l0 10 t ((x : Int) - 1) 1 0)) = true by kernel_rfl) t.toNat (List.mem_range.2 (by omega))
  have h2 := List.all_eq_true.1 h (x + 1).toNat (List.mem_range.2 (by omega))
  rw [Int.toNat_of_nonneg h0, Int.toNat_of_nonneg (by omega), show x + 1 - 1 = x by omega] at h2
  exact h2
theorem rroutes_low (t x : Int) (h : t ≤ 0) : crossbuckref13_Routes.l0 10 t x 1 0 = crossbuckref13_Routes.l0 10 0 x 1 0 := by
  have e : ∀ t, t ≤ 0 → ¬ (0 : Int) < mn t 8 := fun t h => by unfold mn; omega
  simp only [crossbuckref13_Routes.l0, if_neg (e t h), if_neg (e 0 (by omega))]
theorem rroutes_high_l (x t : Int) (h : 8 ≤ t) : ∀ k a b, crossbuckref13_Routes.l0 k t x a b = crossbuckref13_Routes.l0 k 8 x a b
  | 0, _, _ => rfl
  | k + 1, a, b => by
    have e : mn t 8 = mn 8 8 := by unfold mn; omega
    simp only [crossbuckref13_Routes.l0, e, rroutes_high_l x t h k]
theorem routes_same (l : List Int) (ok : Bool) (t : Int) (hb : ∀ x ∈ l, (Lit.int .u8 x).wf = true) : ∃ a, sensor_Routes.f l ok t = some a ∧ crossbuckref13_Routes.f 10 l ok t = some a := by
  have key : ∀ x : Int, -1 ≤ x → x ≤ 255 → ∃ s : Int, 0 ≤ s ∧ s ≤ 8 ∧ mx 0 (mn t 8) = s ∧ crossbuckref13_Routes.l0 10 t x 1 0 = some (if x < 0 then 0 else if x ≥ 2 ^ s.toNat then 0 else x) := by
    intro x hx hy
    have tab : ∀ s : Int, 0 ≤ s → s ≤ 8 → crossbuckref13_Routes.l0 10 s x 1 0 = some (if x < 0 then 0 else if x ≥ 2 ^ s.toNat then 0 else x) := fun s h0 h1 => by
      obtain ⟨a, h2, h3⟩ := sameO_of (routes_tab s h0 h1 x hx hy)
      rw [h3, ← h2]
    by_cases c1 : t ≤ 0
    · exact ⟨0, by omega, by omega, by unfold mx mn; omega, by rw [rroutes_low t x c1]; exact tab 0 (by omega) (by omega)⟩
    by_cases c2 : 8 ≤ t
    · exact ⟨8, by omega, by omega, by unfold mx mn; omega, by rw [rroutes_high_l x t c2]; exact tab 8 (by omega) (by omega)⟩
    · exact ⟨t, by omega, by omega, by unfold mx mn; omega, tab t (by omega) (by omega)⟩
  rcases one_or l ok hb with h | ⟨rfl, x, rfl, h0, h1⟩
  · obtain ⟨s, _, _, _, e⟩ := key (-1) (by omega) (by omega)
    refine ⟨0, routes_no h t, ?_⟩
    unfold crossbuckref13_Routes.f
    rw [rone_no h, Option.bind_some, e, if_pos (by omega)]
  · obtain ⟨s, hs0, hs1, es, e⟩ := key x (by omega) h1
    refine ⟨_, ?_, by unfold crossbuckref13_Routes.f; rw [show crossbuckref13_one.f [x] true = some x by unfold crossbuckref13_one.f; rw [if_pos rfl, if_pos (by simp), if_pos (by simp), show rd [x] 0 = x from rfl, wrap_byte h0 h1], Option.bind_some, e]⟩
    have hw : wrap64 (2 ^ s.toNat) = 2 ^ s.toNat := by
      have : s = 0 ∨ s = 1 ∨ s = 2 ∨ s = 3 ∨ s = 4 ∨ s = 5 ∨ s = 6 ∨ s = 7 ∨ s = 8 := by omega
      rcases this with rfl | rfl | rfl | rfl | rfl | rfl | rfl | rfl | rfl <;> (unfold wrap64; decide)
    unfold sensor_Routes.f
    rw [es, hw]
    unfold sensor_single.f
    rw [if_pos rfl, if_pos (by simp), if_pos (by simp), show rd [x] 0 = x from rfl, wrap_byte h0 h1, if_neg (show ¬ x < 0 by omega)]
    by_cases c : x ≥ 2 ^ s.toNat
    · rw [if_pos c, if_pos c]; rfl
    · rw [if_neg c, if_neg c]; rfl
end Go.Proofs.Ythefjcpddiggkaa.PS
