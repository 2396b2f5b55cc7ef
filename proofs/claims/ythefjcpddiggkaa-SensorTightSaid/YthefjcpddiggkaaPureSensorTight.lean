/- Of nothing, and of what is no right byte, the restrictive thing is read (the plain law). -/
import Derived.Test.YthefjcpddiggkaaPSx7
import Derived.Test.YthefjcpddiggkaaHPure
namespace Go.Proofs.Ythefjcpddiggkaa.Pure
open Go.RowKit Go.Proofs.Ythefjcpddiggkaa.PS Go.Proofs.YthefjcpddiggkaaW.PrintWords Go.Proofs.YthefjcpddiggkaaW.PrintLast

theorem SensorTight : crossbucklaw13_SensorTight.Pure := by
  intro l ok t _ _ hb _
  refine ⟨1, ?_⟩
  unfold crossbucklaw13_SensorTight.f crossbucklaw13_small.f
  simp only [Option.bind_some]
  have big : crossbucklaw13_SensorTight.j0 1 l ok t true true = some true := by simp [crossbucklaw13_SensorTight.j0]
  by_cases c1 : (l.length : Int) > 300
  · rw [if_pos c1]; exact big
  rw [if_neg c1]
  have key : ∀ b : Bool, (NoOne l ok) → crossbucklaw13_SensorTight.j0 1 l ok t true b = some true := by
    intro b h
    cases b with
    | true => exact big
    | false =>
      simp only [crossbucklaw13_SensorTight.j0, power_no h, barrier_no h, lamps_no h, obstacle_no h, mode_no h, routes_no h, Option.bind_some]
      by_cases c4 : ok = true ∧ l.length = 4
      · obtain ⟨c4, c5⟩ := c4
        subst c4
        simp [c5]
      · rw [counts_no c4]
        by_cases c5 : ok = true
        · have : ¬ (l.length : Int) = 4 := fun e => c4 ⟨c5, by omega⟩
          simp [c5, this]
        · simp [c5]
  rcases one_or l ok hb with h | ⟨rfl, x, rfl, _, _⟩
  · by_cases c2 : ok = true
    · rw [if_pos c2]; exact key _ h
    · rw [if_neg c2]; exact key _ h
  · rw [if_pos rfl]; exact big

end Go.Proofs.Ythefjcpddiggkaa.Pure
