-- Of this claim: written by a program of this session (wip/stubprint.py) over the kit's printing tool, and turned by hand where it says so.
import Derived.Test.YtfijlaahifeimaaDoorPSx0
import Derived.Test.YtfijlaahifeimaaDoorPSx4
namespace Go.Proofs.YtfijlaahifeimaaDoor.PS
open Go.RowKit Go.Proofs.YtfijlaahifeimaaDoorW.PrintWords Go.Proofs.YtfijlaahifeimaaDoorW.PrintLast Go.Proofs.YtfijlaahifeimaaDoorW.PrintMore
attribute [local go_sem] max2_int min2_int max_two min_two max_three min_three max_four min_four   -- for this text's walks alone
set_option linter.unusedVariables false
set_option linter.unusedSimpArgs false

/-! ### crossbucklaw14_Few: function 10 -/
mutual
def crossbucklaw14_Few.l0 : Nat → List (List (List Int)) → Int → Int → Option (Bool)
  | 0, _, _, _ => none
  | k + 1, x0, x3, x4 => if x4 < (x0.length : Int) then (if 0 ≤ x4 then (crossbucklaw14_Few.l1 k x0 (wrap64 (x3 + ((rd_L2 x0 x4).length : Int))) x4 0) else (none)) else (if (x0.length : Int) ≤ 200 then (some (decide (x3 ≤ 5000))) else (some false))
def crossbucklaw14_Few.l1 : Nat → List (List (List Int)) → Int → Int → Int → Option (Bool)
  | 0, _, _, _, _ => none
  | k + 1, x0, x3, x4, x5 => if 0 ≤ x4 then (if x4 < (x0.length : Int) then (if x5 < ((rd_L2 x0 x4).length : Int) then (if 0 ≤ x5 then (crossbucklaw14_Few.l1 k x0 (wrap64 (x3 + ((rd_L1 (rd_L2 x0 x4) x5).length : Int))) x4 (wrap64 (x5 + 1))) else (none)) else (crossbucklaw14_Few.l0 k x0 x3 (wrap64 (x4 + 1)))) else (none)) else (none)
end
def crossbucklaw14_Few.f (k : Nat) (l0 : List (List (List Int))) : Option (Bool) := crossbucklaw14_Few.l0 k l0 0 0
theorem crossbucklaw14_Few.mono_l : ∀ k, (∀ y0 y1 y2, LeO (crossbucklaw14_Few.l0 k y0 y1 y2) (crossbucklaw14_Few.l0 (k + 1) y0 y1 y2)) ∧ (∀ y0 y1 y2 y3, LeO (crossbucklaw14_Few.l1 k y0 y1 y2 y3) (crossbucklaw14_Few.l1 (k + 1) y0 y1 y2 y3))
  | 0 => ⟨fun _ _ _ r h => by simp [crossbucklaw14_Few.l0] at h, fun _ _ _ _ r h => by simp [crossbucklaw14_Few.l1] at h⟩
  | k + 1 => by
    obtain ⟨ih0, ih1⟩ := crossbucklaw14_Few.mono_l k
    refine ⟨?_, ?_⟩
    · intro y0 y1 y2
      unfold crossbucklaw14_Few.l0
      repeat' first
      | (with_reducible exact ih0 _ _ _)
      | (with_reducible exact ih1 _ _ _ _)
      | (with_reducible exact LeO.refl _)
      | (with_reducible exact LeO.none _)
      | (with_reducible refine LeO.ite ?_ ?_)
      | (with_reducible refine LeO.bind ?_ (fun _ => ?_))
      | exact ih0 _ _ _
      | exact ih1 _ _ _ _
      | exact LeO.none _
      | refine LeO.ite ?_ ?_
      | refine LeO.bind ?_ (fun _ => ?_)
    · intro y0 y1 y2 y3
      unfold crossbucklaw14_Few.l1
      repeat' first
      | (with_reducible exact ih0 _ _ _)
      | (with_reducible exact ih1 _ _ _ _)
      | (with_reducible exact LeO.refl _)
      | (with_reducible exact LeO.none _)
      | (with_reducible refine LeO.ite ?_ ?_)
      | (with_reducible refine LeO.bind ?_ (fun _ => ?_))
      | exact ih0 _ _ _
      | exact ih1 _ _ _ _
      | exact LeO.none _
      | refine LeO.ite ?_ ?_
      | refine LeO.bind ?_ (fun _ => ?_)
theorem crossbucklaw14_Few.mono : ∀ a0 k, LeO (crossbucklaw14_Few.f k a0) (crossbucklaw14_Few.f (k + 1) a0) := by
  intro a0 k
  obtain ⟨ih0, ih1⟩ := crossbucklaw14_Few.mono_l k
  unfold crossbucklaw14_Few.f
  repeat' first
      | (with_reducible exact ih0 _ _ _)
      | (with_reducible exact ih1 _ _ _ _)
      | (with_reducible exact LeO.refl _)
      | (with_reducible exact LeO.none _)
      | (with_reducible refine LeO.ite ?_ ?_)
      | (with_reducible refine LeO.bind ?_ (fun _ => ?_))
      | exact ih0 _ _ _
      | exact ih1 _ _ _ _
      | exact LeO.none _
      | refine LeO.ite ?_ ?_
      | refine LeO.bind ?_ (fun _ => ?_)
set_option maxHeartbeats 8000000 in
set_option maxRecDepth 100000 in
theorem crossbucklaw14_Few.calls (k : Nat) (A0 : Option Addr) (c0 : Nat) (l0 : List (List (List Int))) (r : Bool) (w : World) (hr0 : Kd.C (Kd.slice 44 (Kd.slice 5 (Kd.int .u8))) w A0 l0.length l0) (hc0 : l0.length ≤ c0) (h : crossbucklaw14_Few.f k l0 = some r) :
    Calls Tryd.prog 10 #[.slice A0 l0.length c0] w fun e w' => e = .returned (.bool r) ∧ Drawn0 w w' := by
  have HR0 := Aside0.mk hr0
  have HC0 := Aside0.mk hc0
  clear hr0 hc0
  have H : (crossbucklaw14_Few.l0 k l0 0 0) = some r := h
  clear h
  have H' := Aside0.mk H
  clear H
  go_enter Tryd.func10, Tryd.ntmps10
  go_wp2
  go_loopg [3, 4] k (fun kq v3 v4 w' => ∃ (x3_1 : Int) (x4_1 : Int), v3 = .int .i64 x3_1 ∧ v4 = .int .i64 x4_1 ∧ Aside0 (crossbucklaw14_Few.l0 kq l0 x3_1 x4_1 = some r) ∧ Aside0 (kq ≤ k) ∧ Drawn0 w w')
  case atStart => exact ⟨(0), (0), (by first | rfl | (simp; done) | (simp [*]; done)), (by first | rfl | (simp; done) | (simp [*]; done)), H', ⟨Nat.le_refl _⟩, by repeat (first | exact Drawn0.refl _ | apply Drawn0.step)⟩
  case round =>
    clear H'
    try clear c1
    obtain ⟨x3_1, x4_1, rfl, rfl, HA, HK1, ⟨m1, rfl⟩⟩ := hrel
    cases gk with
    | zero => exact absurd HA.out (by simp [crossbucklaw14_Few.l0])
    | succ k1 =>
      have H := HA.out
      clear HA
      simp only [crossbucklaw14_Few.l0] at H
      by_cases c2 : x4_1 < (l0.length : Int)
      · rw [if_pos c2] at H
        have c2b0 : decide (x4_1 < (l0.length : Int)) = true := decide_eq_true c2
        clear c2
        by_cases c3 : 0 ≤ x4_1
        · rw [if_pos c3] at H
          have c3b0 : decide (0 ≤ x4_1) = true := decide_eq_true c3
          clear c3
          have H' := Aside0.mk H
          clear H
          have p171 : 0 ≤ (x4_1 : Int) := of_decide_eq_true (by first | (with_reducible assumption) | assumption)
          have q171 : x4_1 < (l0.length : Int) := of_decide_eq_true (by first | (with_reducible assumption) | assumption)
          obtain ⟨ad171, A171_0, c171_0, e171, hx171_0, hl171_0, hi171_0⟩ := at_L2 HR0.out x4_1 p171 q171
          cases e171
          have HR171_0 := Aside0.mk hi171_0
          have HC171_0 := Aside0.mk hl171_0
          clear hi171_0 hl171_0
          replace p171 := eq_true p171
          replace q171 := eq_true q171
          go_wp2
          go_loopg [3, 5] k1 (fun kq v3 v5 w' => ∃ (x3_2 : Int) (x5_2 : Int), v3 = .int .i64 x3_2 ∧ v5 = .int .i64 x5_2 ∧ Aside0 (crossbucklaw14_Few.l1 kq l0 x3_2 x4_1 x5_2 = some r) ∧ Aside0 (kq ≤ k1) ∧ Drawn0 w w')
          case atStart => exact ⟨(wrap64 (x3_1 + ((rd_L2 l0 x4_1).length : Int))), (0), (by first | rfl | (simp; done) | (simp [*]; done)), (by first | rfl | (simp; done) | (simp [*]; done)), H', ⟨Nat.le_refl _⟩, by repeat (first | exact Drawn0.refl _ | apply Drawn0.step)⟩
          case round =>
            clear H'
            try clear c1
            try clear p1
            try clear q1
            try clear hx1
            try clear c2
            try clear c2b0
            try clear p2
            try clear c3
            try clear c3b0
            try clear hx171_0
            try clear p171
            try clear q171
            obtain ⟨x3_2, x5_2, rfl, rfl, HA, HK2, ⟨m2, rfl⟩⟩ := hrel
            cases gk with
            | zero => exact absurd HA.out (by simp [crossbucklaw14_Few.l1])
            | succ k2 =>
              have H := HA.out
              clear HA
              simp only [crossbucklaw14_Few.l1] at H
              by_cases c4 : 0 ≤ x4_1
              · rw [if_pos c4] at H
                have c4b0 : decide (0 ≤ x4_1) = true := decide_eq_true c4
                clear c4
                by_cases c5 : x4_1 < (l0.length : Int)
                · rw [if_pos c5] at H
                  have c5b0 : decide (x4_1 < (l0.length : Int)) = true := decide_eq_true c5
                  clear c5
                  by_cases c6 : x5_2 < ((rd_L2 l0 x4_1).length : Int)
                  · rw [if_pos c6] at H
                    have c6b0 : decide (x5_2 < ((rd_L2 l0 x4_1).length : Int)) = true := decide_eq_true c6
                    clear c6
                    by_cases c7 : 0 ≤ x5_2
                    · rw [if_pos c7] at H
                      have c7b0 : decide (0 ≤ x5_2) = true := decide_eq_true c7
                      clear c7
                      have H' := Aside0.mk H
                      clear H
                      have p172 : 0 ≤ (x4_1 : Int) := of_decide_eq_true (by first | (with_reducible assumption) | assumption)
                      have q172 : x4_1 < (l0.length : Int) := of_decide_eq_true (by first | (with_reducible assumption) | assumption)
                      obtain ⟨ad172, A172_0, c172_0, e172, hx172_0, hl172_0, hi172_0⟩ := at_L2 HR0.out x4_1 p172 q172
                      obtain rfl : ad171 = ad172 := (by injection e172)
                      have HR172_0 := Aside0.mk hi172_0
                      have HC172_0 := Aside0.mk hl172_0
                      clear hi172_0 hl172_0
                      replace p172 := eq_true p172
                      replace q172 := eq_true q172
                      have p173 : 0 ≤ (x4_1 : Int) := of_decide_eq_true (by first | (with_reducible assumption) | assumption)
                      have q173 : x4_1 < (l0.length : Int) := of_decide_eq_true (by first | (with_reducible assumption) | assumption)
                      obtain ⟨ad173, A173_0, c173_0, e173, hx173_0, hl173_0, hi173_0⟩ := at_L2 HR0.out x4_1 p173 q173
                      obtain rfl : ad171 = ad173 := (by injection e173)
                      have HR173_0 := Aside0.mk hi173_0
                      have HC173_0 := Aside0.mk hl173_0
                      clear hi173_0 hl173_0
                      replace p173 := eq_true p173
                      replace q173 := eq_true q173
                      have ea_ := Option.some.inj (hx172_0.symm.trans hx173_0)
                      injection ea_ with ea_ en_ ec_
                      subst ea_
                      subst ec_
                      clear en_
                      have p174 : 0 ≤ (x5_2 : Int) := of_decide_eq_true (by first | (with_reducible assumption) | assumption)
                      have q174 : x5_2 < ((rd_L2 l0 x4_1).length : Int) := of_decide_eq_true (by first | (with_reducible assumption) | assumption)
                      obtain ⟨ad174, A174_0, c174_0, e174, hx174_0, hl174_0, hi174_0⟩ := at_L1 HR173_0.out x5_2 p174 q174
                      cases e174
                      have HR174_0 := Aside0.mk hi174_0
                      have HC174_0 := Aside0.mk hl174_0
                      clear hi174_0 hl174_0
                      replace p174 := eq_true p174
                      replace q174 := eq_true q174
                      go_wp2
                      go_roundg k2
                      case measure => have := HK1.out; have := HK2.out; omega
                      case rel => exact ⟨(wrap64 (x3_2 + ((rd_L1 (rd_L2 l0 x4_1) x5_2).length : Int))), (wrap64 (x5_2 + 1)), (by first | rfl | (simp; done) | (simp [*]; done)), (by first | rfl | (simp; done) | (simp [*]; done)), H', ⟨by have := HK1.out; have := HK2.out; omega⟩, by repeat (first | exact Drawn0.refl _ | apply Drawn0.step)⟩
                    · rw [if_neg c7] at H
                      exact absurd H (by simp)
                  · rw [if_neg c6] at H
                    have c6b0 : decide (x5_2 < ((rd_L2 l0 x4_1).length : Int)) = false := decide_eq_false c6
                    clear c6
                    have H' := Aside0.mk H
                    clear H
                    have p172 : 0 ≤ (x4_1 : Int) := of_decide_eq_true (by first | (with_reducible assumption) | assumption)
                    have q172 : x4_1 < (l0.length : Int) := of_decide_eq_true (by first | (with_reducible assumption) | assumption)
                    obtain ⟨ad172, A172_0, c172_0, e172, hx172_0, hl172_0, hi172_0⟩ := at_L2 HR0.out x4_1 p172 q172
                    obtain rfl : ad171 = ad172 := (by injection e172)
                    have HR172_0 := Aside0.mk hi172_0
                    have HC172_0 := Aside0.mk hl172_0
                    clear hi172_0 hl172_0
                    replace p172 := eq_true p172
                    replace q172 := eq_true q172
                    go_wp2
                    go_roundg k2
                    case measure => have := HK1.out; have := HK2.out; omega
                    case rel => exact ⟨(x3_2), (wrap64 (x4_1 + 1)), (by first | rfl | (simp; done) | (simp [*]; done)), (by first | rfl | (simp; done) | (simp [*]; done)), H', ⟨by have := HK1.out; have := HK2.out; omega⟩, by repeat (first | exact Drawn0.refl _ | apply Drawn0.step)⟩
                · rw [if_neg c5] at H
                  exact absurd H (by simp)
              · rw [if_neg c4] at H
                exact absurd H (by simp)
        · rw [if_neg c3] at H
          exact absurd H (by simp)
      · rw [if_neg c2] at H
        have c2b0 : decide (x4_1 < (l0.length : Int)) = false := decide_eq_false c2
        clear c2
        by_cases c8 : (l0.length : Int) ≤ 200
        · rw [if_pos c8] at H
          have c8b0 : decide ((l0.length : Int) ≤ 200) = true := decide_eq_true c8
          have c8b1 : decide (l0.length ≤ 200) = true := decide_eq_true (by omega)
          clear c8
          obtain rfl := Option.some.inj H
          go_wp2
          go_ret
          exact ⟨by first | rfl | (simp; done) | (simp [*]; done), by repeat (first | exact Drawn0.refl _ | apply Drawn0.step)⟩
        · rw [if_neg c8] at H
          have c8b0 : decide ((l0.length : Int) ≤ 200) = false := decide_eq_false c8
          have c8b1 : decide (l0.length ≤ 200) = false := decide_eq_false (by omega)
          clear c8
          obtain rfl := Option.some.inj H
          go_wp2
          go_ret
          exact ⟨by first | rfl | (simp; done) | (simp [*]; done), by repeat (first | exact Drawn0.refl _ | apply Drawn0.step)⟩

-- NOT PRINTED: function 25 (crossbuckref07_New)

-- NOT PRINTED: function 12 (crossbuckref14_New)

end Go.Proofs.YtfijlaahifeimaaDoor.PS
