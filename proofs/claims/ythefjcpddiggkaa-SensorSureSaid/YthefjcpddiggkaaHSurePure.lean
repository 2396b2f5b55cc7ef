/- No barrier is told to be down and up, and no route is told that there is not: plain laws. -/
import Derived.Test.YthefjcpddiggkaaHSmall
import Derived.Test.YthefjcpddiggkaaHPure
namespace Go.Proofs.Ythefjcpddiggkaa.PS
open Go.RowKit Go.Proofs.YthefjcpddiggkaaW.PrintWords Go.Proofs.YthefjcpddiggkaaW.PrintLast Go.Proofs.YthefjcpddiggkaaW.PrintMore
attribute [local go_sem] max2_int min2_int max_two min_two max_three min_three max_four min_four
set_option linter.unusedVariables false
set_option linter.unusedSimpArgs false
def barOk (o : Option (Bool × Bool × Bool × Bool)) : Bool := match o with | some (a, b, c, d) => !(a && b) && !(c && d) | none => false
theorem barrier_sure (l : List Int) (ok : Bool) (hb : ∀ x ∈ l, (Lit.int .u8 x).wf = true) : ∃ a b c d, sensor_Barrier.f l ok = some (a, b, c, d) ∧ (a && b) = false ∧ (c && d) = false := by
  rcases one_or l ok hb with h | ⟨rfl, x, rfl, h0, h1⟩
  · exact ⟨_, _, _, _, barrier_no h, rfl, rfl⟩
  · have e := bytes_all (fun x => barOk (sensor_Barrier.f [x] true)) (by kernel_rfl) x h0 h1
    rcases hh : sensor_Barrier.f [x] true with _ | ⟨a, b, c, d⟩
    · simp [hh, barOk] at e
    · simp only [hh, barOk] at e
      refine ⟨a, b, c, d, rfl, ?_, ?_⟩
      · cases a <;> cases b <;> simp_all
      · cases c <;> cases d <;> simp_all
def modeOk (o : Option Int) : Bool := match o with | some m => 0 ≤ m && m ≤ 2 | none => false
theorem mode_sure (l : List Int) (ok : Bool) (hb : ∀ x ∈ l, (Lit.int .u8 x).wf = true) : ∃ m, sensor_Mode.f l ok = some m ∧ 0 ≤ m ∧ m ≤ 2 := by
  rcases one_or l ok hb with h | ⟨rfl, x, rfl, h0, h1⟩
  · exact ⟨_, mode_no h, by omega, by omega⟩
  · have e := bytes_all (fun x => modeOk (sensor_Mode.f [x] true)) (by kernel_rfl) x h0 h1
    rcases hh : sensor_Mode.f [x] true with _ | m
    · simp [hh, modeOk] at e
    · simp [hh, modeOk] at e
      exact ⟨m, rfl, e.1, e.2⟩
theorem routes_sure (l : List Int) (ok : Bool) (t : Int) (hb : ∀ x ∈ l, (Lit.int .u8 x).wf = true) : ∃ n, sensor_Routes.f l ok t = some n ∧ 0 ≤ n ∧ n < 256 ∧ (1 ≤ t → t ≤ 8 → n < 2 ^ t.toNat) := by
  rcases one_or l ok hb with h | ⟨rfl, x, rfl, h0, h1⟩
  · exact ⟨_, routes_no h t, by omega, by omega, fun _ _ => Int.pow_pos (by omega)⟩
  · unfold sensor_Routes.f sensor_single.f
    rw [if_pos rfl, if_pos (by simp), if_pos (by simp), show rd [x] 0 = x from rfl, wrap_byte h0 h1]
    by_cases c : x ≥ wrap64 (2 ^ (mx 0 (mn t 8)).toNat)
    · rw [if_pos c]; exact ⟨0, rfl, by omega, by omega, fun _ _ => Int.pow_pos (by omega)⟩
    · rw [if_neg c]
      refine ⟨x, rfl, h0, by omega, fun h2 h3 => ?_⟩
      have e : mx 0 (mn t 8) = t := by unfold mx mn; omega
      rw [e] at c
      have hw : wrap64 (2 ^ t.toNat) = 2 ^ t.toNat := by
        have : t = 1 ∨ t = 2 ∨ t = 3 ∨ t = 4 ∨ t = 5 ∨ t = 6 ∨ t = 7 ∨ t = 8 := by omega
        rcases this with rfl | rfl | rfl | rfl | rfl | rfl | rfl | rfl <;> (unfold wrap64; decide)
      rw [hw] at c
      omega
theorem counts_sure (l : List Int) (ok : Bool) (hb : ∀ x ∈ l, (Lit.int .u8 x).wf = true) : ∃ f a b c d, sensor_Counts.f l ok = some (f, a, b, c, d) ∧ (f = true ∨ (f = false ∧ a = 0 ∧ b = 0 ∧ c = 0 ∧ d = 0)) ∧ 0 ≤ c ∧ c ≤ 2 ∧ 0 ≤ d ∧ d ≤ 3 := by
  rcases four_or l ok hb with h | ⟨rfl, a, b, c, d, rfl, ha, hb, hc, hd⟩
  · exact ⟨_, _, _, _, _, counts_no h, .inr ⟨rfl, rfl, rfl, rfl, rfl⟩, by omega, by omega, by omega, by omega⟩
  · rw [counts_four a b c d ha hb hc hd]
    by_cases k : c ≤ 2 ∧ d ≤ 3
    · rw [if_pos k]; exact ⟨_, _, _, _, _, rfl, .inl rfl, by omega, by omega, by omega, by omega⟩
    · rw [if_neg k]; exact ⟨_, _, _, _, _, rfl, .inr ⟨rfl, rfl, rfl, rfl, rfl⟩, by omega, by omega, by omega, by omega⟩
end Go.Proofs.Ythefjcpddiggkaa.PS
