-- Of this claim: written by a program of this session (wip/stubprint.py) over the kit's printing tool, and turned by hand where it says so.
import Derived.Test.YthefjcpddiggkaaPSx0
import Derived.Test.YthefjcpddiggkaaPSx3
import Derived.Test.YthefjcpddiggkaaPSx4
import Derived.Test.YthefjcpddiggkaaPSx5
namespace Go.Proofs.Ythefjcpddiggkaa.PS
open Go.RowKit Go.Proofs.YthefjcpddiggkaaW.PrintWords Go.Proofs.YthefjcpddiggkaaW.PrintLast Go.Proofs.YthefjcpddiggkaaW.PrintMore
attribute [local go_sem] max2_int min2_int max_two min_two max_three min_three max_four min_four   -- for this text's walks alone
set_option linter.unusedVariables false
set_option linter.unusedSimpArgs false

/-! ### sensor_Print: function 23 -/
mutual
def sensor_Print.j0 : Nat → Int → Bool → Bool → Bool → Bool → Bool → Bool → Bool → Bool → Int → Bool → Bool → Int → List (S33) → Bool → Bool → Bool → Bool → Option (List Int)
  | 0, _, _, _, _, _, _, _, _, _, _, _, _, _, _, _, _, _, _ => none
  | k + 1, x1, x8, x164000, x164001, x164002, x164003, x164004, x164005, x164006, x164007, x164008, x164009, x164010, x164011, x165000, x165001, x165002, x165003 => if x8 = true then (if 0 ≤ (wrap64 (x1 - 8)) then (if (wrap64 (x1 - 8)) < (x164011.length : Int) then ((sensor_track.f k ((rd_T33 x164011 (wrap64 (x1 - 8))).f0) ((rd_T33 x164011 (wrap64 (x1 - 8))).f1) ((rd_T33 x164011 (wrap64 (x1 - 8))).f2) ((rd_T33 x164011 (wrap64 (x1 - 8))).f3) ((rd_T33 x164011 (wrap64 (x1 - 8))).f4)).bind fun t166 => (some t166)) else (none)) else (none)) else (if x1 = 0 then (if x165000 = true then (if x165001 = true then (sensor_Print.j1 k x1 true x164000 x164001 x164002 x164003 x164004 x164005 x164006 x164007 x164008 x164009 x164010 x164011 x165000 x165001 x165002 x165003) else (if x165002 = true then (sensor_Print.j1 k x1 x165003 x164000 x164001 x164002 x164003 x164004 x164005 x164006 x164007 x164008 x164009 x164010 x164011 x165000 x165001 x165002 x165003) else (sensor_Print.j1 k x1 false x164000 x164001 x164002 x164003 x164004 x164005 x164006 x164007 x164008 x164009 x164010 x164011 x165000 x165001 x165002 x165003))) else (if x165002 = true then (sensor_Print.j1 k x1 x165003 x164000 x164001 x164002 x164003 x164004 x164005 x164006 x164007 x164008 x164009 x164010 x164011 x165000 x165001 x165002 x165003) else (sensor_Print.j1 k x1 false x164000 x164001 x164002 x164003 x164004 x164005 x164006 x164007 x164008 x164009 x164010 x164011 x165000 x165001 x165002 x165003))) else (sensor_Print.j1 k x1 false x164000 x164001 x164002 x164003 x164004 x164005 x164006 x164007 x164008 x164009 x164010 x164011 x165000 x165001 x165002 x165003))
def sensor_Print.j1 : Nat → Int → Bool → Bool → Bool → Bool → Bool → Bool → Bool → Bool → Int → Bool → Bool → Int → List (S33) → Bool → Bool → Bool → Bool → Option (List Int)
  | 0, _, _, _, _, _, _, _, _, _, _, _, _, _, _, _, _, _, _ => none
  | k + 1, x1, x26, x164000, x164001, x164002, x164003, x164004, x164005, x164006, x164007, x164008, x164009, x164010, x164011, x165000, x165001, x165002, x165003 => if x26 = true then (some ([] : List Int)) else (if x1 = 0 then ((sensor_bits.f k (([x165000, x165001, x165002, x165003] : List Bool))).bind fun t172 => (some t172)) else (if x1 = 1 then ((sensor_bits.f k (([x164005] : List Bool))).bind fun t178 => (some t178)) else (if x1 = 2 then ((sensor_bits.f k (([x164006] : List Bool))).bind fun t184 => (some t184)) else (if x1 = 3 then ((sensor_number.f x164007 3).bind fun t187 => (some t187)) else (if x1 = 4 then ((sensor_bits.f k (([x164008, x164009] : List Bool))).bind fun t193 => (some t193)) else (if x1 = 5 then ((sensor_number.f x164010 256).bind fun t196 => (some t196)) else (some ([] : List Int))))))))
end
def sensor_Print.f (k : Nat) (a0_0 : Bool) (a0_1 : Bool) (a0_2 : Bool) (a0_3 : Bool) (a0_4 : Bool) (a0_5 : Bool) (a0_6 : Bool) (a0_7 : Int) (a0_8 : Bool) (a0_9 : Bool) (a0_10 : Int) (l0_11 : List (S33)) (a1 : Int) : Option (List Int) := if a1 ≥ 8 then (sensor_Print.j0 k a1 (decide ((wrap64 (a1 - 8)) < (l0_11.length : Int))) a0_0 a0_1 a0_2 a0_3 a0_4 a0_5 a0_6 a0_7 a0_8 a0_9 a0_10 l0_11 a0_0 a0_1 a0_2 a0_3) else (sensor_Print.j0 k a1 false a0_0 a0_1 a0_2 a0_3 a0_4 a0_5 a0_6 a0_7 a0_8 a0_9 a0_10 l0_11 a0_0 a0_1 a0_2 a0_3)
theorem sensor_Print.mono_l : ∀ k, (∀ y0 y1 y2 y3 y4 y5 y6 y7 y8 y9 y10 y11 y12 y13 y14 y15 y16 y17, LeO (sensor_Print.j0 k y0 y1 y2 y3 y4 y5 y6 y7 y8 y9 y10 y11 y12 y13 y14 y15 y16 y17) (sensor_Print.j0 (k + 1) y0 y1 y2 y3 y4 y5 y6 y7 y8 y9 y10 y11 y12 y13 y14 y15 y16 y17)) ∧ (∀ y0 y1 y2 y3 y4 y5 y6 y7 y8 y9 y10 y11 y12 y13 y14 y15 y16 y17, LeO (sensor_Print.j1 k y0 y1 y2 y3 y4 y5 y6 y7 y8 y9 y10 y11 y12 y13 y14 y15 y16 y17) (sensor_Print.j1 (k + 1) y0 y1 y2 y3 y4 y5 y6 y7 y8 y9 y10 y11 y12 y13 y14 y15 y16 y17))
  | 0 => ⟨fun _ _ _ _ _ _ _ _ _ _ _ _ _ _ _ _ _ _ r h => by simp [sensor_Print.j0] at h, fun _ _ _ _ _ _ _ _ _ _ _ _ _ _ _ _ _ _ r h => by simp [sensor_Print.j1] at h⟩
  | k + 1 => by
    obtain ⟨ih0, ih1⟩ := sensor_Print.mono_l k
    refine ⟨?_, ?_⟩
    · intro y0 y1 y2 y3 y4 y5 y6 y7 y8 y9 y10 y11 y12 y13 y14 y15 y16 y17
      unfold sensor_Print.j0
      repeat' first
      | (with_reducible exact ih0 _ _ _ _ _ _ _ _ _ _ _ _ _ _ _ _ _ _)
      | (with_reducible exact ih1 _ _ _ _ _ _ _ _ _ _ _ _ _ _ _ _ _ _)
      | (with_reducible exact sensor_bits.mono _ _)
      | (with_reducible exact sensor_track.mono _ _ _ _ _ _)
      | (with_reducible exact LeO.refl _)
      | (with_reducible exact LeO.none _)
      | (with_reducible refine LeO.ite ?_ ?_)
      | (with_reducible refine LeO.bind ?_ (fun _ => ?_))
      | exact ih0 _ _ _ _ _ _ _ _ _ _ _ _ _ _ _ _ _ _
      | exact ih1 _ _ _ _ _ _ _ _ _ _ _ _ _ _ _ _ _ _
      | exact sensor_bits.mono _ _
      | exact sensor_track.mono _ _ _ _ _ _
      | exact LeO.none _
      | refine LeO.ite ?_ ?_
      | refine LeO.bind ?_ (fun _ => ?_)
    · intro y0 y1 y2 y3 y4 y5 y6 y7 y8 y9 y10 y11 y12 y13 y14 y15 y16 y17
      unfold sensor_Print.j1
      repeat' first
      | (with_reducible exact ih0 _ _ _ _ _ _ _ _ _ _ _ _ _ _ _ _ _ _)
      | (with_reducible exact ih1 _ _ _ _ _ _ _ _ _ _ _ _ _ _ _ _ _ _)
      | (with_reducible exact sensor_bits.mono _ _)
      | (with_reducible exact sensor_track.mono _ _ _ _ _ _)
      | (with_reducible exact LeO.refl _)
      | (with_reducible exact LeO.none _)
      | (with_reducible refine LeO.ite ?_ ?_)
      | (with_reducible refine LeO.bind ?_ (fun _ => ?_))
      | exact ih0 _ _ _ _ _ _ _ _ _ _ _ _ _ _ _ _ _ _
      | exact ih1 _ _ _ _ _ _ _ _ _ _ _ _ _ _ _ _ _ _
      | exact sensor_bits.mono _ _
      | exact sensor_track.mono _ _ _ _ _ _
      | exact LeO.none _
      | refine LeO.ite ?_ ?_
      | refine LeO.bind ?_ (fun _ => ?_)
theorem sensor_Print.mono : ∀ a0 a1 a2 a3 a4 a5 a6 a7 a8 a9 a10 a11 a12 k, LeO (sensor_Print.f k a0 a1 a2 a3 a4 a5 a6 a7 a8 a9 a10 a11 a12) (sensor_Print.f (k + 1) a0 a1 a2 a3 a4 a5 a6 a7 a8 a9 a10 a11 a12) := by
  intro a0 a1 a2 a3 a4 a5 a6 a7 a8 a9 a10 a11 a12 k
  obtain ⟨ih0, ih1⟩ := sensor_Print.mono_l k
  unfold sensor_Print.f
  repeat' first
      | (with_reducible exact ih0 _ _ _ _ _ _ _ _ _ _ _ _ _ _ _ _ _ _)
      | (with_reducible exact ih1 _ _ _ _ _ _ _ _ _ _ _ _ _ _ _ _ _ _)
      | (with_reducible exact sensor_bits.mono _ _)
      | (with_reducible exact sensor_track.mono _ _ _ _ _ _)
      | (with_reducible exact LeO.refl _)
      | (with_reducible exact LeO.none _)
      | (with_reducible refine LeO.ite ?_ ?_)
      | (with_reducible refine LeO.bind ?_ (fun _ => ?_))
      | exact ih0 _ _ _ _ _ _ _ _ _ _ _ _ _ _ _ _ _ _
      | exact ih1 _ _ _ _ _ _ _ _ _ _ _ _ _ _ _ _ _ _
      | exact sensor_bits.mono _ _
      | exact sensor_track.mono _ _ _ _ _ _
      | exact LeO.none _
      | refine LeO.ite ?_ ?_
      | refine LeO.bind ?_ (fun _ => ?_)
set_option maxHeartbeats 8000000 in
set_option maxRecDepth 100000 in
theorem sensor_Print.calls (k : Nat) (a0_0 : Bool) (a0_1 : Bool) (a0_2 : Bool) (a0_3 : Bool) (a0_4 : Bool) (a0_5 : Bool) (a0_6 : Bool) (a0_7 : Int) (a0_8 : Bool) (a0_9 : Bool) (a0_10 : Int) (A0_11 : Option Addr) (c0_11 : Nat) (l0_11 : List (S33)) (a1 : Int) (r : List Int) (w : World) (hr0_11 : Kd.C k33 w A0_11 l0_11.length l0_11) (hc0_11 : l0_11.length ≤ c0_11) (h : sensor_Print.f k a0_0 a0_1 a0_2 a0_3 a0_4 a0_5 a0_6 a0_7 a0_8 a0_9 a0_10 l0_11 a1 = some r) :
    Calls Try.prog 23 #[.agg #[.bool a0_0, .bool a0_1, .bool a0_2, .bool a0_3, .bool a0_4, .bool a0_5, .bool a0_6, .int .i64 a0_7, .bool a0_8, .bool a0_9, .int .i64 a0_10, .slice A0_11 l0_11.length c0_11], .int .i64 a1] w fun e w' => ∃ v0_ : Value, e = .returned (v0_) ∧ Kd.R (Kd.int .u8) 5 w' w.heap.size (fun _ => True) v0_ r ∧ Below w.heap.size w w' := by
  have hu38 := Try.underlying38
  have hu27 := Try.underlying27
  have hu33 := Try.underlying33
  have HR0_11 := Aside0.mk hr0_11
  have HC0_11 := Aside0.mk hc0_11
  clear hr0_11 hc0_11
  have HB := Aside0.mk (Below.refl w.heap.size w)
  have H : (if a1 ≥ 8 then (sensor_Print.j0 k a1 (decide ((wrap64 (a1 - 8)) < (l0_11.length : Int))) a0_0 a0_1 a0_2 a0_3 a0_4 a0_5 a0_6 a0_7 a0_8 a0_9 a0_10 l0_11 a0_0 a0_1 a0_2 a0_3) else (sensor_Print.j0 k a1 false a0_0 a0_1 a0_2 a0_3 a0_4 a0_5 a0_6 a0_7 a0_8 a0_9 a0_10 l0_11 a0_0 a0_1 a0_2 a0_3)) = some r := h
  clear h
  have HC3 := Aside0.mk H
  clear H
  go_enter Try.func23, Try.ntmps23
  go_upto_region 2 with (first | ((with_reducible refine gate_dst (N := 2) rfl ?_); (try (refine gate_guard (by rfl) ?_; dsimp only)); refine box_event ?hg (N := 2) ?hd (cs := #[.bool a0_0, .bool a0_1, .bool a0_2, .bool a0_3, .bool a0_4, .bool a0_5, .bool a0_6, .int .i64 a0_7, .bool a0_8, .bool a0_9, .int .i64 a0_10, .slice A0_11 l0_11.length c0_11]) (t := 38) ?hr ?_; (case hd => rfl); (case hg => rfl); (case hr => first | (go_simp; done) | (go_simp; rfl)); intro gb163 hg w4 hbox hb; have n0_ := Aside0.mk (below_step (by repeat (first | (with_reducible first | exact HB.out | apply below_alloc | apply pw_below_drewN | apply below_drew1) | exact HB.out)) hb); have n1_ := Aside0.mk (hbox); have n2_ := Aside0.mk ((by rw [hg]; exact (below_size (by repeat (first | (with_reducible first | exact HB.out | apply below_alloc | apply pw_below_drewN | apply below_drew1) | exact HB.out))) : w.heap.size ≤ gb163)); have n3_ := Aside0.mk ((by rw [hg]; exact (below_size (by repeat (first | (with_reducible first | exact HB.out | apply below_alloc | apply pw_below_drewN | apply below_drew1) | exact HB.out))) : w.heap.size ≤ gb163)); clear HB; have HB := n0_; have BK163 := n1_; have GW163 := n2_; have GE163 := n3_; clear n0_ n1_ n2_ n3_; clear hb hbox hg; have hcz5_0 : w4.cell? ⟨gb163, 0, none⟩ = some (.bool a0_0) := (blk_cell BK163.out 0).trans rfl; have hcz5_1 : w4.cell? ⟨gb163, 1, none⟩ = some (.bool a0_1) := (blk_cell BK163.out 1).trans rfl; have hcz5_2 : w4.cell? ⟨gb163, 2, none⟩ = some (.bool a0_2) := (blk_cell BK163.out 2).trans rfl; have hcz5_3 : w4.cell? ⟨gb163, 3, none⟩ = some (.bool a0_3) := (blk_cell BK163.out 3).trans rfl; have hcz5_4 : w4.cell? ⟨gb163, 4, none⟩ = some (.bool a0_4) := (blk_cell BK163.out 4).trans rfl; have hcz5_5 : w4.cell? ⟨gb163, 5, none⟩ = some (.bool a0_5) := (blk_cell BK163.out 5).trans rfl; have hcz5_6 : w4.cell? ⟨gb163, 6, none⟩ = some (.bool a0_6) := (blk_cell BK163.out 6).trans rfl; have hcz5_7 : w4.cell? ⟨gb163, 7, none⟩ = some (.int .i64 a0_7) := (blk_cell BK163.out 7).trans rfl; have hcz5_8 : w4.cell? ⟨gb163, 8, none⟩ = some (.bool a0_8) := (blk_cell BK163.out 8).trans rfl; have hcz5_9 : w4.cell? ⟨gb163, 9, none⟩ = some (.bool a0_9) := (blk_cell BK163.out 9).trans rfl; have hcz5_10 : w4.cell? ⟨gb163, 10, none⟩ = some (.int .i64 a0_10) := (blk_cell BK163.out 10).trans rfl; have hcz5_11 : w4.cell? ⟨gb163, 11, none⟩ = some (.slice A0_11 l0_11.length c0_11) := (blk_cell BK163.out 11).trans rfl; have hfz5_0 := blk_frozen BK163.out 0; have hfz5_1 := blk_frozen BK163.out 1; have hfz5_2 := blk_frozen BK163.out 2; have hfz5_3 := blk_frozen BK163.out 3; have hfz5_4 := blk_frozen BK163.out 4; have hfz5_5 := blk_frozen BK163.out 5; have hfz5_6 := blk_frozen BK163.out 6; have hfz5_7 := blk_frozen BK163.out 7; have hfz5_8 := blk_frozen BK163.out 8; have hfz5_9 := blk_frozen BK163.out 9; have hfz5_10 := blk_frozen BK163.out 10; have hfz5_11 := blk_frozen BK163.out 11) | ((with_reducible refine gate_dst (N := 5) rfl ?_); (try (refine gate_guard (by rfl) ?_; dsimp only)); refine box_event ?hg (N := 5) ?hd (cs := #[.bool false, .bool false, .bool false, .bool false]) (t := 27) ?hr ?_; (case hd => rfl); (case hg => rfl); (case hr => first | (go_simp; done) | (go_simp; rfl)); intro gb164 hg w6 hbox hb; have n0_ := Aside0.mk (blk_below (g := gb163) (o := .cells #[.bool a0_0, .bool a0_1, .bool a0_2, .bool a0_3, .bool a0_4, .bool a0_5, .bool a0_6, .int .i64 a0_7, .bool a0_8, .bool a0_9, .int .i64 a0_10, .slice A0_11 l0_11.length c0_11] 38 (0, 0)) (by (with_reducible repeat (first | refine blk_drewN ?_ _ | refine blk_drew ?_ | refine blk_alloc ?_ _)); exact BK163.out) hb); have n1_ := Aside0.mk (below_step (by repeat (first | (with_reducible first | exact HB.out | apply below_alloc | apply pw_below_drewN | apply below_drew1 | refine below_set ?_ GE163.out) | exact HB.out)) hb); have n2_ := Aside0.mk (hbox); have n3_ := Aside0.mk ((by rw [hg]; exact (below_size (by repeat (first | (with_reducible first | exact HB.out | apply below_alloc | apply pw_below_drewN | apply below_drew1 | refine below_set ?_ GE163.out) | exact HB.out))) : w.heap.size ≤ gb164)); have n4_ := Aside0.mk ((by rw [hg]; exact (below_size (by repeat (first | (with_reducible first | exact HB.out | apply below_alloc | apply pw_below_drewN | apply below_drew1 | refine below_set ?_ GE163.out) | exact HB.out))) : w.heap.size ≤ gb164)); have n5_ := Aside0.mk ((by rw [hg]; exact Nat.ne_of_lt (blk_lt (g := gb163) (o := .cells #[.bool a0_0, .bool a0_1, .bool a0_2, .bool a0_3, .bool a0_4, .bool a0_5, .bool a0_6, .int .i64 a0_7, .bool a0_8, .bool a0_9, .int .i64 a0_10, .slice A0_11 l0_11.length c0_11] 38 (0, 0)) (by (with_reducible repeat (first | refine blk_drewN ?_ _ | refine blk_drew ?_ | refine blk_alloc ?_ _)); exact BK163.out)) : gb163 ≠ gb164)); have n6_ := Aside0.mk ((by rw [hg]; exact Nat.ne_of_gt (blk_lt (g := gb163) (o := .cells #[.bool a0_0, .bool a0_1, .bool a0_2, .bool a0_3, .bool a0_4, .bool a0_5, .bool a0_6, .int .i64 a0_7, .bool a0_8, .bool a0_9, .int .i64 a0_10, .slice A0_11 l0_11.length c0_11] 38 (0, 0)) (by (with_reducible repeat (first | refine blk_drewN ?_ _ | refine blk_drew ?_ | refine blk_alloc ?_ _)); exact BK163.out)) : gb164 ≠ gb163)); clear BK163; clear HB; have BK163 := n0_; have HB := n1_; have BK164 := n2_; have GW164 := n3_; have GE164 := n4_; have NB163_164 := n5_; have NB164_163 := n6_; clear n0_ n1_ n2_ n3_ n4_ n5_ n6_; clear hb hbox hg; have hnb7 := NB164_163.out; have hnc7 := NB163_164.out; have hcz8_0 : w6.cell? ⟨gb164, 0, none⟩ = some (.bool false) := (blk_cell BK164.out 0).trans rfl; have hcz8_1 : w6.cell? ⟨gb164, 1, none⟩ = some (.bool false) := (blk_cell BK164.out 1).trans rfl; have hcz8_2 : w6.cell? ⟨gb164, 2, none⟩ = some (.bool false) := (blk_cell BK164.out 2).trans rfl; have hcz8_3 : w6.cell? ⟨gb164, 3, none⟩ = some (.bool false) := (blk_cell BK164.out 3).trans rfl; have hfz8_0 := blk_frozen BK164.out 0; have hfz8_1 := blk_frozen BK164.out 1; have hfz8_2 := blk_frozen BK164.out 2; have hfz8_3 := blk_frozen BK164.out 3))
  (try simp only [Act.put, List.setIfInBounds_toArray, List.set_cons_zero, List.set_cons_succ])
  go_cut [8] (fun v8 wc => ∃ (kq : Nat) (x8_2 : Bool), v8 = .bool x8_2 ∧ Aside0 (sensor_Print.j0 kq a1 x8_2 a0_0 a0_1 a0_2 a0_3 a0_4 a0_5 a0_6 a0_7 a0_8 a0_9 a0_10 l0_11 a0_0 a0_1 a0_2 a0_3 = some r) ∧ Aside0 (kq ≤ k) ∧ Aside0 (wc.heap[gb163]? = some (.cells #[.bool a0_0, .bool a0_1, .bool a0_2, .bool a0_3, .bool a0_4, .bool a0_5, .bool a0_6, .int .i64 a0_7, .bool a0_8, .bool a0_9, .int .i64 a0_10, (.slice A0_11 l0_11.length c0_11)] 38 (0, 0))) ∧ Aside0 (wc.heap[gb164]? = some (.cells #[.bool a0_0, .bool a0_1, .bool a0_2, .bool a0_3] 27 (0, 0))) ∧ Aside0 (Below w.heap.size w wc))
  case first =>
    have H := HC3.out
    clear HC3
    by_cases c9 : a1 ≥ 8
    · rw [if_pos c9] at H
      have c9b0 : decide (8 ≤ a1) = true := decide_eq_true c9
      clear c9
      (first | rw [c9b0] | (simp only [i64_w, i32_w]; rw [c9b0]) | skip)
      have H' := Aside0.mk H
      clear H
      have hnb10 := NB163_164.out
      have hnc10 := NB164_163.out
      have hcz11_0 : w6.cell? ⟨gb163, 0, none⟩ = some (.bool a0_0) := (blk_cell BK163.out 0).trans rfl
      have hcz11_1 : w6.cell? ⟨gb163, 1, none⟩ = some (.bool a0_1) := (blk_cell BK163.out 1).trans rfl
      have hcz11_2 : w6.cell? ⟨gb163, 2, none⟩ = some (.bool a0_2) := (blk_cell BK163.out 2).trans rfl
      have hcz11_3 : w6.cell? ⟨gb163, 3, none⟩ = some (.bool a0_3) := (blk_cell BK163.out 3).trans rfl
      have hcz11_4 : w6.cell? ⟨gb163, 4, none⟩ = some (.bool a0_4) := (blk_cell BK163.out 4).trans rfl
      have hcz11_5 : w6.cell? ⟨gb163, 5, none⟩ = some (.bool a0_5) := (blk_cell BK163.out 5).trans rfl
      have hcz11_6 : w6.cell? ⟨gb163, 6, none⟩ = some (.bool a0_6) := (blk_cell BK163.out 6).trans rfl
      have hcz11_7 : w6.cell? ⟨gb163, 7, none⟩ = some (.int .i64 a0_7) := (blk_cell BK163.out 7).trans rfl
      have hcz11_8 : w6.cell? ⟨gb163, 8, none⟩ = some (.bool a0_8) := (blk_cell BK163.out 8).trans rfl
      have hcz11_9 : w6.cell? ⟨gb163, 9, none⟩ = some (.bool a0_9) := (blk_cell BK163.out 9).trans rfl
      have hcz11_10 : w6.cell? ⟨gb163, 10, none⟩ = some (.int .i64 a0_10) := (blk_cell BK163.out 10).trans rfl
      have hcz11_11 : w6.cell? ⟨gb163, 11, none⟩ = some (.slice A0_11 l0_11.length c0_11) := (blk_cell BK163.out 11).trans rfl
      have hfz11_0 := blk_frozen BK163.out 0
      have hfz11_1 := blk_frozen BK163.out 1
      have hfz11_2 := blk_frozen BK163.out 2
      have hfz11_3 := blk_frozen BK163.out 3
      have hfz11_4 := blk_frozen BK163.out 4
      have hfz11_5 := blk_frozen BK163.out 5
      have hfz11_6 := blk_frozen BK163.out 6
      have hfz11_7 := blk_frozen BK163.out 7
      have hfz11_8 := blk_frozen BK163.out 8
      have hfz11_9 := blk_frozen BK163.out 9
      have hfz11_10 := blk_frozen BK163.out 10
      have hfz11_11 := blk_frozen BK163.out 11
      go_wp2
      go_meet
      case rel => exact ⟨_, (decide ((wrap64 (a1 - 8)) < (l0_11.length : Int))), (by first | rfl | (simp; done) | (simp [*]; done)), H', ⟨by first | omega | exact Nat.le_refl _⟩, ⟨by (with_reducible repeat (first | refine blk_drewN ?_ _ | refine blk_drew ?_ | refine blk_alloc ?_ _)); refine blk_far ?_ NB163_164.out _; (with_reducible repeat (first | refine blk_drewN ?_ _ | refine blk_drew ?_ | refine blk_alloc ?_ _)); refine blk_far ?_ NB163_164.out _; (with_reducible repeat (first | refine blk_drewN ?_ _ | refine blk_drew ?_ | refine blk_alloc ?_ _)); refine blk_far ?_ NB163_164.out _; (with_reducible repeat (first | refine blk_drewN ?_ _ | refine blk_drew ?_ | refine blk_alloc ?_ _)); refine blk_far ?_ NB163_164.out _; (with_reducible repeat (first | refine blk_drewN ?_ _ | refine blk_drew ?_ | refine blk_alloc ?_ _)); exact BK163.out⟩, ⟨by (with_reducible repeat (first | refine blk_drewN ?_ _ | refine blk_drew ?_ | refine blk_alloc ?_ _)); refine blk_put (cs := #[.bool a0_0, .bool a0_1, .bool a0_2, .bool false]) ?_ 3 _ rfl; (with_reducible repeat (first | refine blk_drewN ?_ _ | refine blk_drew ?_ | refine blk_alloc ?_ _)); refine blk_put (cs := #[.bool a0_0, .bool a0_1, .bool false, .bool false]) ?_ 2 _ rfl; (with_reducible repeat (first | refine blk_drewN ?_ _ | refine blk_drew ?_ | refine blk_alloc ?_ _)); refine blk_put (cs := #[.bool a0_0, .bool false, .bool false, .bool false]) ?_ 1 _ rfl; (with_reducible repeat (first | refine blk_drewN ?_ _ | refine blk_drew ?_ | refine blk_alloc ?_ _)); refine blk_put (cs := #[.bool false, .bool false, .bool false, .bool false]) ?_ 0 _ rfl; (with_reducible repeat (first | refine blk_drewN ?_ _ | refine blk_drew ?_ | refine blk_alloc ?_ _)); exact BK164.out⟩, ⟨by repeat (first | (with_reducible first | exact HB.out | apply below_alloc | apply pw_below_drewN | apply below_drew1 | refine below_set ?_ GE163.out | refine below_set ?_ GE164.out) | exact HB.out)⟩⟩
    · rw [if_neg c9] at H
      have c9b0 : decide (8 ≤ a1) = false := decide_eq_false c9
      clear c9
      (first | rw [c9b0] | (simp only [i64_w, i32_w]; rw [c9b0]) | skip)
      have H' := Aside0.mk H
      clear H
      go_wp2
      go_meet
      case rel => exact ⟨_, (false), (by first | rfl | (simp; done) | (simp [*]; done)), H', ⟨by first | omega | exact Nat.le_refl _⟩, ⟨by (with_reducible repeat (first | refine blk_drewN ?_ _ | refine blk_drew ?_ | refine blk_alloc ?_ _)); refine blk_far ?_ NB163_164.out _; (with_reducible repeat (first | refine blk_drewN ?_ _ | refine blk_drew ?_ | refine blk_alloc ?_ _)); refine blk_far ?_ NB163_164.out _; (with_reducible repeat (first | refine blk_drewN ?_ _ | refine blk_drew ?_ | refine blk_alloc ?_ _)); refine blk_far ?_ NB163_164.out _; (with_reducible repeat (first | refine blk_drewN ?_ _ | refine blk_drew ?_ | refine blk_alloc ?_ _)); refine blk_far ?_ NB163_164.out _; (with_reducible repeat (first | refine blk_drewN ?_ _ | refine blk_drew ?_ | refine blk_alloc ?_ _)); exact BK163.out⟩, ⟨by (with_reducible repeat (first | refine blk_drewN ?_ _ | refine blk_drew ?_ | refine blk_alloc ?_ _)); refine blk_put (cs := #[.bool a0_0, .bool a0_1, .bool a0_2, .bool false]) ?_ 3 _ rfl; (with_reducible repeat (first | refine blk_drewN ?_ _ | refine blk_drew ?_ | refine blk_alloc ?_ _)); refine blk_put (cs := #[.bool a0_0, .bool a0_1, .bool false, .bool false]) ?_ 2 _ rfl; (with_reducible repeat (first | refine blk_drewN ?_ _ | refine blk_drew ?_ | refine blk_alloc ?_ _)); refine blk_put (cs := #[.bool a0_0, .bool false, .bool false, .bool false]) ?_ 1 _ rfl; (with_reducible repeat (first | refine blk_drewN ?_ _ | refine blk_drew ?_ | refine blk_alloc ?_ _)); refine blk_put (cs := #[.bool false, .bool false, .bool false, .bool false]) ?_ 0 _ rfl; (with_reducible repeat (first | refine blk_drewN ?_ _ | refine blk_drew ?_ | refine blk_alloc ?_ _)); exact BK164.out⟩, ⟨by repeat (first | (with_reducible first | exact HB.out | apply below_alloc | apply pw_below_drewN | apply below_drew1 | refine below_set ?_ GE163.out | refine below_set ?_ GE164.out) | exact HB.out)⟩⟩
  case rest =>
    clear HC3
    try clear c1
    try clear c2
    try clear p2
    try clear p6
    try clear c7
    try clear c9
    try clear c9b0
    try clear c10
    try clear hcz11_0
    try clear hcz11_1
    try clear hcz11_10
    try clear hcz11_11
    try clear hcz11_2
    try clear hcz11_3
    try clear hcz11_4
    try clear hcz11_5
    try clear hcz11_6
    try clear hcz11_7
    try clear hcz11_8
    try clear hcz11_9
    try clear hcz5_0
    try clear hcz5_1
    try clear hcz5_10
    try clear hcz5_11
    try clear hcz5_2
    try clear hcz5_3
    try clear hcz5_4
    try clear hcz5_5
    try clear hcz5_6
    try clear hcz5_7
    try clear hcz5_8
    try clear hcz5_9
    try clear hcz8_0
    try clear hcz8_1
    try clear hcz8_2
    try clear hcz8_3
    try clear hfz11_0
    try clear hfz11_1
    try clear hfz11_10
    try clear hfz11_11
    try clear hfz11_2
    try clear hfz11_3
    try clear hfz11_4
    try clear hfz11_5
    try clear hfz11_6
    try clear hfz11_7
    try clear hfz11_8
    try clear hfz11_9
    try clear hfz5_0
    try clear hfz5_1
    try clear hfz5_10
    try clear hfz5_11
    try clear hfz5_2
    try clear hfz5_3
    try clear hfz5_4
    try clear hfz5_5
    try clear hfz5_6
    try clear hfz5_7
    try clear hfz5_8
    try clear hfz5_9
    try clear hfz8_0
    try clear hfz8_1
    try clear hfz8_2
    try clear hfz8_3
    obtain ⟨kq, x8_2, rfl, HA, HJ2, BK163, BK164, HB⟩ := hcut
    cases kq with
    | zero => exact absurd HA.out (by simp [sensor_Print.j0])
    | succ kj2 =>
      have H := HA.out
      clear HA
      simp only [sensor_Print.j0] at H
      by_cases c12 : x8_2 = true
      · subst c12
        have H1 : (if 0 ≤ (wrap64 (a1 - 8)) then (if (wrap64 (a1 - 8)) < (l0_11.length : Int) then ((sensor_track.f kj2 ((rd_T33 l0_11 (wrap64 (a1 - 8))).f0) ((rd_T33 l0_11 (wrap64 (a1 - 8))).f1) ((rd_T33 l0_11 (wrap64 (a1 - 8))).f2) ((rd_T33 l0_11 (wrap64 (a1 - 8))).f3) ((rd_T33 l0_11 (wrap64 (a1 - 8))).f4)).bind fun t166 => (some t166)) else (none)) else (none)) = some r := by rw [if_pos rfl] at H; exact H
        clear H
        have H := H1
        clear H1
        obtain ⟨ji13, hji13⟩ : ∃ j_ : Int, (wrap64 (a1 - 8)) = j_ := ⟨_, rfl⟩
        replace H : (if 0 ≤ (ji13) then (if (ji13) < (l0_11.length : Int) then ((sensor_track.f kj2 ((rd_T33 l0_11 (ji13)).f0) ((rd_T33 l0_11 (ji13)).f1) ((rd_T33 l0_11 (ji13)).f2) ((rd_T33 l0_11 (ji13)).f3) ((rd_T33 l0_11 (ji13)).f4)).bind fun t166 => (some t166)) else (none)) else (none)) = some r := by first | (rw [hji13] at H; exact H) | (simp only [hji13] at H ⊢; exact H)
        have hji13w : (IntKind.i64.wrap (a1 - 8)) = ji13 := (i64_w _).trans hji13
        by_cases c14 : 0 ≤ (ji13)
        · rw [if_pos c14] at H
          have c14b0 : decide (0 ≤ (ji13)) = true := decide_eq_true c14
          clear c14
          by_cases c15 : (ji13) < (l0_11.length : Int)
          · rw [if_pos c15] at H
            have c15b0 : decide ((ji13) < (l0_11.length : Int)) = true := decide_eq_true c15
            clear c15
            replace H := Option.bind_eq_some_iff.mp H
            obtain ⟨t166, A160, H⟩ := H
            replace H : (some t166) = some r := H
            have A16 := Aside0.mk A160
            clear A160
            obtain rfl := Option.some.inj H
            have hnb17 := NB163_164.out
            have hnc17 := NB164_163.out
            have hcz18_0 : wc.cell? ⟨gb163, 0, none⟩ = some (.bool a0_0) := (blk_cell BK163.out 0).trans rfl
            have hcz18_1 : wc.cell? ⟨gb163, 1, none⟩ = some (.bool a0_1) := (blk_cell BK163.out 1).trans rfl
            have hcz18_2 : wc.cell? ⟨gb163, 2, none⟩ = some (.bool a0_2) := (blk_cell BK163.out 2).trans rfl
            have hcz18_3 : wc.cell? ⟨gb163, 3, none⟩ = some (.bool a0_3) := (blk_cell BK163.out 3).trans rfl
            have hcz18_4 : wc.cell? ⟨gb163, 4, none⟩ = some (.bool a0_4) := (blk_cell BK163.out 4).trans rfl
            have hcz18_5 : wc.cell? ⟨gb163, 5, none⟩ = some (.bool a0_5) := (blk_cell BK163.out 5).trans rfl
            have hcz18_6 : wc.cell? ⟨gb163, 6, none⟩ = some (.bool a0_6) := (blk_cell BK163.out 6).trans rfl
            have hcz18_7 : wc.cell? ⟨gb163, 7, none⟩ = some (.int .i64 a0_7) := (blk_cell BK163.out 7).trans rfl
            have hcz18_8 : wc.cell? ⟨gb163, 8, none⟩ = some (.bool a0_8) := (blk_cell BK163.out 8).trans rfl
            have hcz18_9 : wc.cell? ⟨gb163, 9, none⟩ = some (.bool a0_9) := (blk_cell BK163.out 9).trans rfl
            have hcz18_10 : wc.cell? ⟨gb163, 10, none⟩ = some (.int .i64 a0_10) := (blk_cell BK163.out 10).trans rfl
            have hcz18_11 : wc.cell? ⟨gb163, 11, none⟩ = some (.slice A0_11 l0_11.length c0_11) := (blk_cell BK163.out 11).trans rfl
            have hfz18_0 := blk_frozen BK163.out 0
            have hfz18_1 := blk_frozen BK163.out 1
            have hfz18_2 := blk_frozen BK163.out 2
            have hfz18_3 := blk_frozen BK163.out 3
            have hfz18_4 := blk_frozen BK163.out 4
            have hfz18_5 := blk_frozen BK163.out 5
            have hfz18_6 := blk_frozen BK163.out 6
            have hfz18_7 := blk_frozen BK163.out 7
            have hfz18_8 := blk_frozen BK163.out 8
            have hfz18_9 := blk_frozen BK163.out 9
            have hfz18_10 := blk_frozen BK163.out 10
            have hfz18_11 := blk_frozen BK163.out 11
            have p165 : 0 ≤ ((ji13) : Int) := of_decide_eq_true (by first | (with_reducible assumption) | assumption)
            have q165 : (ji13) < (l0_11.length : Int) := of_decide_eq_true (by first | (with_reducible assumption) | assumption)
            obtain ⟨ad165, e165, hx165_0, hx165_1, hx165_2, hx165_3, hx165_4⟩ := at_T33 HR0_11.out (ji13) p165 q165
            cases e165
            replace hx165_0 := (HB.out.cell (World.block_lt_of_cell? w _ hx165_0)).trans hx165_0
            replace hx165_1 := (HB.out.cell (World.block_lt_of_cell? w _ hx165_1)).trans hx165_1
            replace hx165_2 := (HB.out.cell (World.block_lt_of_cell? w _ hx165_2)).trans hx165_2
            replace hx165_3 := (HB.out.cell (World.block_lt_of_cell? w _ hx165_3)).trans hx165_3
            replace hx165_4 := (HB.out.cell (World.block_lt_of_cell? w _ hx165_4)).trans hx165_4
            replace p165 := eq_true p165
            replace q165 := eq_true q165
            go_wp2_with (first | ((with_reducible refine gate_callee (f := 28) rfl ?_); refine goesL_ (some 25) rfl rfl Try.func28 (by kernel_rfl) rfl #[.agg #[.bool ((rd_T33 l0_11 (ji13)).f0), .int .i64 ((rd_T33 l0_11 (ji13)).f1), .int .i64 ((rd_T33 l0_11 (ji13)).f2), .int .i64 ((rd_T33 l0_11 (ji13)).f3), .int .i64 ((rd_T33 l0_11 (ji13)).f4)]] rfl (by (try simp only [List.map_toArray, List.map_cons, List.map_nil]); first | done | (simp only [hji13]; rfl) | rfl | (simp only [List.length_drop, List.length_take]; rfl)) ?_; (with_reducible refine (sensor_track.calls kj2 ((rd_T33 l0_11 (ji13)).f0) ((rd_T33 l0_11 (ji13)).f1) ((rd_T33 l0_11 (ji13)).f2) ((rd_T33 l0_11 (ji13)).f3) ((rd_T33 l0_11 (ji13)).f4) t166 _ A16.out).mono ?_); rintro e w19 ⟨v167, rfl, ho0, hb⟩; refine ⟨_, rfl, ?_⟩; have n0_ := Aside0.mk (Kd.R_lower ho0 (below_size (by repeat (first | (with_reducible first | exact HB.out | apply below_alloc | apply pw_below_drewN | apply below_drew1 | refine below_set ?_ GE163.out | refine below_set ?_ GE164.out) | exact HB.out)))); have n1_ := Aside0.mk (blk_below (g := gb163) (o := .cells #[.bool a0_0, .bool a0_1, .bool a0_2, .bool a0_3, .bool a0_4, .bool a0_5, .bool a0_6, .int .i64 a0_7, .bool a0_8, .bool a0_9, .int .i64 a0_10, .slice (some ad165) l0_11.length c0_11] 38 (0, 0)) (by (with_reducible repeat (first | refine blk_drewN ?_ _ | refine blk_drew ?_ | refine blk_alloc ?_ _)); exact BK163.out) hb); have n2_ := Aside0.mk (blk_below (g := gb164) (o := .cells #[.bool a0_0, .bool a0_1, .bool a0_2, .bool a0_3] 27 (0, 0)) (by (with_reducible repeat (first | refine blk_drewN ?_ _ | refine blk_drew ?_ | refine blk_alloc ?_ _)); exact BK164.out) hb); have n3_ := Aside0.mk (below_step (by repeat (first | (with_reducible first | exact HB.out | apply below_alloc | apply pw_below_drewN | apply below_drew1 | refine below_set ?_ GE163.out | refine below_set ?_ GE164.out) | exact HB.out)) hb); clear BK163; clear BK164; clear HB; have HO168 := n0_; have BK163 := n1_; have BK164 := n2_; have HB := n3_; clear n0_ n1_ n2_ n3_; (try clear hb); (try clear hb2); (try clear hk); (try clear hi); (try clear ho0)))
            go_ret
            exact ⟨_, by first | rfl | (simp [errW_none, errW_some] <;> rfl) | (simp only [← hji13]; first | rfl | (simp [errW_none, errW_some] <;> rfl)) | (simp [*, errW_none, errW_some] <;> rfl), by (with_reducible repeat (first | apply Kd.R_alloc | apply Kd.R_drewN | apply Kd.R_drew)); exact HO168.out, by repeat (first | (with_reducible first | exact HB.out | apply below_alloc | apply pw_below_drewN | apply below_drew1 | refine below_set ?_ GE163.out | refine below_set ?_ GE164.out) | exact HB.out)⟩
          · rw [if_neg c15] at H
            exact absurd H (by simp)
        · rw [if_neg c14] at H
          exact absurd H (by simp)
      · replace c12 := Bool.eq_false_iff.mpr c12
        subst c12
        have H1 : (if a1 = 0 then (if a0_0 = true then (if a0_1 = true then (sensor_Print.j1 kj2 a1 true a0_0 a0_1 a0_2 a0_3 a0_4 a0_5 a0_6 a0_7 a0_8 a0_9 a0_10 l0_11 a0_0 a0_1 a0_2 a0_3) else (if a0_2 = true then (sensor_Print.j1 kj2 a1 a0_3 a0_0 a0_1 a0_2 a0_3 a0_4 a0_5 a0_6 a0_7 a0_8 a0_9 a0_10 l0_11 a0_0 a0_1 a0_2 a0_3) else (sensor_Print.j1 kj2 a1 false a0_0 a0_1 a0_2 a0_3 a0_4 a0_5 a0_6 a0_7 a0_8 a0_9 a0_10 l0_11 a0_0 a0_1 a0_2 a0_3))) else (if a0_2 = true then (sensor_Print.j1 kj2 a1 a0_3 a0_0 a0_1 a0_2 a0_3 a0_4 a0_5 a0_6 a0_7 a0_8 a0_9 a0_10 l0_11 a0_0 a0_1 a0_2 a0_3) else (sensor_Print.j1 kj2 a1 false a0_0 a0_1 a0_2 a0_3 a0_4 a0_5 a0_6 a0_7 a0_8 a0_9 a0_10 l0_11 a0_0 a0_1 a0_2 a0_3))) else (sensor_Print.j1 kj2 a1 false a0_0 a0_1 a0_2 a0_3 a0_4 a0_5 a0_6 a0_7 a0_8 a0_9 a0_10 l0_11 a0_0 a0_1 a0_2 a0_3)) = some r := by rw [if_neg (show ¬ (false = true) by decide)] at H; exact H
        clear H
        have H := H1
        clear H1
        have HC20 := Aside0.mk H
        clear H
        go_upto_region 4 with (fail)
        go_cut [26] (fun v26 wc => ∃ (kq : Nat) (x26_19 : Bool), v26 = .bool x26_19 ∧ Aside0 (sensor_Print.j1 kq a1 x26_19 a0_0 a0_1 a0_2 a0_3 a0_4 a0_5 a0_6 a0_7 a0_8 a0_9 a0_10 l0_11 a0_0 a0_1 a0_2 a0_3 = some r) ∧ Aside0 (kq ≤ kj2) ∧ Aside0 (wc.heap[gb163]? = some (.cells #[.bool a0_0, .bool a0_1, .bool a0_2, .bool a0_3, .bool a0_4, .bool a0_5, .bool a0_6, .int .i64 a0_7, .bool a0_8, .bool a0_9, .int .i64 a0_10, (.slice A0_11 l0_11.length c0_11)] 38 (0, 0))) ∧ Aside0 (wc.heap[gb164]? = some (.cells #[.bool a0_0, .bool a0_1, .bool a0_2, .bool a0_3] 27 (0, 0))) ∧ Aside0 (Below w.heap.size w wc))
        case first =>
          have H := HC20.out
          clear HC20
          by_cases c21 : a1 = 0
          · rw [if_pos c21] at H
            have c21b0 : (a1 == 0) = true := beq_iff_eq.mpr c21
            have c21b1 : (a1 != 0) = false := bne_eq_false_iff_eq.mpr c21
            clear c21
            (first | rw [c21b0] | (simp only [i64_w, i32_w]; rw [c21b0]) | skip)
            by_cases c22 : a0_0 = true
            · subst c22
              have H1 : (if a0_1 = true then (sensor_Print.j1 kj2 a1 true true a0_1 a0_2 a0_3 a0_4 a0_5 a0_6 a0_7 a0_8 a0_9 a0_10 l0_11 true a0_1 a0_2 a0_3) else (if a0_2 = true then (sensor_Print.j1 kj2 a1 a0_3 true a0_1 a0_2 a0_3 a0_4 a0_5 a0_6 a0_7 a0_8 a0_9 a0_10 l0_11 true a0_1 a0_2 a0_3) else (sensor_Print.j1 kj2 a1 false true a0_1 a0_2 a0_3 a0_4 a0_5 a0_6 a0_7 a0_8 a0_9 a0_10 l0_11 true a0_1 a0_2 a0_3))) = some r := by rw [if_pos rfl] at H; exact H
              clear H
              have H := H1
              clear H1
              by_cases c23 : a0_1 = true
              · subst c23
                have H1 : (sensor_Print.j1 kj2 a1 true true true a0_2 a0_3 a0_4 a0_5 a0_6 a0_7 a0_8 a0_9 a0_10 l0_11 true true a0_2 a0_3) = some r := by rw [if_pos rfl] at H; exact H
                clear H
                have H := H1
                clear H1
                have H' := Aside0.mk H
                clear H
                have hnb24 := NB164_163.out
                have hnc24 := NB163_164.out
                have hcz25_0 : wc.cell? ⟨gb164, 0, none⟩ = some (.bool true) := (blk_cell BK164.out 0).trans rfl
                have hcz25_1 : wc.cell? ⟨gb164, 1, none⟩ = some (.bool true) := (blk_cell BK164.out 1).trans rfl
                have hcz25_2 : wc.cell? ⟨gb164, 2, none⟩ = some (.bool a0_2) := (blk_cell BK164.out 2).trans rfl
                have hcz25_3 : wc.cell? ⟨gb164, 3, none⟩ = some (.bool a0_3) := (blk_cell BK164.out 3).trans rfl
                have hfz25_0 := blk_frozen BK164.out 0
                have hfz25_1 := blk_frozen BK164.out 1
                have hfz25_2 := blk_frozen BK164.out 2
                have hfz25_3 := blk_frozen BK164.out 3
                go_wp2
                go_meet
                case rel => exact ⟨_, (true), (by first | rfl | (simp; done) | (simp [*]; done)), H', ⟨by have := HJ2.out; first | omega | exact Nat.le_refl _⟩, ⟨by (with_reducible repeat (first | refine blk_drewN ?_ _ | refine blk_drew ?_ | refine blk_alloc ?_ _)); exact BK163.out⟩, ⟨by (with_reducible repeat (first | refine blk_drewN ?_ _ | refine blk_drew ?_ | refine blk_alloc ?_ _)); exact BK164.out⟩, ⟨by repeat (first | (with_reducible first | exact HB.out | apply below_alloc | apply pw_below_drewN | apply below_drew1 | refine below_set ?_ GE163.out | refine below_set ?_ GE164.out) | exact HB.out)⟩⟩
              · replace c23 := Bool.eq_false_iff.mpr c23
                subst c23
                have H1 : (if a0_2 = true then (sensor_Print.j1 kj2 a1 a0_3 true false a0_2 a0_3 a0_4 a0_5 a0_6 a0_7 a0_8 a0_9 a0_10 l0_11 true false a0_2 a0_3) else (sensor_Print.j1 kj2 a1 false true false a0_2 a0_3 a0_4 a0_5 a0_6 a0_7 a0_8 a0_9 a0_10 l0_11 true false a0_2 a0_3)) = some r := by rw [if_neg (show ¬ (false = true) by decide)] at H; exact H
                clear H
                have H := H1
                clear H1
                by_cases c26 : a0_2 = true
                · subst c26
                  have H1 : (sensor_Print.j1 kj2 a1 a0_3 true false true a0_3 a0_4 a0_5 a0_6 a0_7 a0_8 a0_9 a0_10 l0_11 true false true a0_3) = some r := by rw [if_pos rfl] at H; exact H
                  clear H
                  have H := H1
                  clear H1
                  have H' := Aside0.mk H
                  clear H
                  have hnb27 := NB164_163.out
                  have hnc27 := NB163_164.out
                  have hcz28_0 : wc.cell? ⟨gb164, 0, none⟩ = some (.bool true) := (blk_cell BK164.out 0).trans rfl
                  have hcz28_1 : wc.cell? ⟨gb164, 1, none⟩ = some (.bool false) := (blk_cell BK164.out 1).trans rfl
                  have hcz28_2 : wc.cell? ⟨gb164, 2, none⟩ = some (.bool true) := (blk_cell BK164.out 2).trans rfl
                  have hcz28_3 : wc.cell? ⟨gb164, 3, none⟩ = some (.bool a0_3) := (blk_cell BK164.out 3).trans rfl
                  have hfz28_0 := blk_frozen BK164.out 0
                  have hfz28_1 := blk_frozen BK164.out 1
                  have hfz28_2 := blk_frozen BK164.out 2
                  have hfz28_3 := blk_frozen BK164.out 3
                  go_wp2
                  go_meet
                  case rel => exact ⟨_, (a0_3), (by first | rfl | (simp; done) | (simp [*]; done)), H', ⟨by have := HJ2.out; first | omega | exact Nat.le_refl _⟩, ⟨by (with_reducible repeat (first | refine blk_drewN ?_ _ | refine blk_drew ?_ | refine blk_alloc ?_ _)); exact BK163.out⟩, ⟨by (with_reducible repeat (first | refine blk_drewN ?_ _ | refine blk_drew ?_ | refine blk_alloc ?_ _)); exact BK164.out⟩, ⟨by repeat (first | (with_reducible first | exact HB.out | apply below_alloc | apply pw_below_drewN | apply below_drew1 | refine below_set ?_ GE163.out | refine below_set ?_ GE164.out) | exact HB.out)⟩⟩
                · replace c26 := Bool.eq_false_iff.mpr c26
                  subst c26
                  have H1 : (sensor_Print.j1 kj2 a1 false true false false a0_3 a0_4 a0_5 a0_6 a0_7 a0_8 a0_9 a0_10 l0_11 true false false a0_3) = some r := by rw [if_neg (show ¬ (false = true) by decide)] at H; exact H
                  clear H
                  have H := H1
                  clear H1
                  have H' := Aside0.mk H
                  clear H
                  have hnb29 := NB164_163.out
                  have hnc29 := NB163_164.out
                  have hcz30_0 : wc.cell? ⟨gb164, 0, none⟩ = some (.bool true) := (blk_cell BK164.out 0).trans rfl
                  have hcz30_1 : wc.cell? ⟨gb164, 1, none⟩ = some (.bool false) := (blk_cell BK164.out 1).trans rfl
                  have hcz30_2 : wc.cell? ⟨gb164, 2, none⟩ = some (.bool false) := (blk_cell BK164.out 2).trans rfl
                  have hcz30_3 : wc.cell? ⟨gb164, 3, none⟩ = some (.bool a0_3) := (blk_cell BK164.out 3).trans rfl
                  have hfz30_0 := blk_frozen BK164.out 0
                  have hfz30_1 := blk_frozen BK164.out 1
                  have hfz30_2 := blk_frozen BK164.out 2
                  have hfz30_3 := blk_frozen BK164.out 3
                  go_wp2
                  go_meet
                  case rel => exact ⟨_, (false), (by first | rfl | (simp; done) | (simp [*]; done)), H', ⟨by have := HJ2.out; first | omega | exact Nat.le_refl _⟩, ⟨by (with_reducible repeat (first | refine blk_drewN ?_ _ | refine blk_drew ?_ | refine blk_alloc ?_ _)); exact BK163.out⟩, ⟨by (with_reducible repeat (first | refine blk_drewN ?_ _ | refine blk_drew ?_ | refine blk_alloc ?_ _)); exact BK164.out⟩, ⟨by repeat (first | (with_reducible first | exact HB.out | apply below_alloc | apply pw_below_drewN | apply below_drew1 | refine below_set ?_ GE163.out | refine below_set ?_ GE164.out) | exact HB.out)⟩⟩
            · replace c22 := Bool.eq_false_iff.mpr c22
              subst c22
              have H1 : (if a0_2 = true then (sensor_Print.j1 kj2 a1 a0_3 false a0_1 a0_2 a0_3 a0_4 a0_5 a0_6 a0_7 a0_8 a0_9 a0_10 l0_11 false a0_1 a0_2 a0_3) else (sensor_Print.j1 kj2 a1 false false a0_1 a0_2 a0_3 a0_4 a0_5 a0_6 a0_7 a0_8 a0_9 a0_10 l0_11 false a0_1 a0_2 a0_3)) = some r := by rw [if_neg (show ¬ (false = true) by decide)] at H; exact H
              clear H
              have H := H1
              clear H1
              by_cases c31 : a0_2 = true
              · subst c31
                have H1 : (sensor_Print.j1 kj2 a1 a0_3 false a0_1 true a0_3 a0_4 a0_5 a0_6 a0_7 a0_8 a0_9 a0_10 l0_11 false a0_1 true a0_3) = some r := by rw [if_pos rfl] at H; exact H
                clear H
                have H := H1
                clear H1
                have H' := Aside0.mk H
                clear H
                have hnb32 := NB164_163.out
                have hnc32 := NB163_164.out
                have hcz33_0 : wc.cell? ⟨gb164, 0, none⟩ = some (.bool false) := (blk_cell BK164.out 0).trans rfl
                have hcz33_1 : wc.cell? ⟨gb164, 1, none⟩ = some (.bool a0_1) := (blk_cell BK164.out 1).trans rfl
                have hcz33_2 : wc.cell? ⟨gb164, 2, none⟩ = some (.bool true) := (blk_cell BK164.out 2).trans rfl
                have hcz33_3 : wc.cell? ⟨gb164, 3, none⟩ = some (.bool a0_3) := (blk_cell BK164.out 3).trans rfl
                have hfz33_0 := blk_frozen BK164.out 0
                have hfz33_1 := blk_frozen BK164.out 1
                have hfz33_2 := blk_frozen BK164.out 2
                have hfz33_3 := blk_frozen BK164.out 3
                go_wp2
                go_meet
                case rel => exact ⟨_, (a0_3), (by first | rfl | (simp; done) | (simp [*]; done)), H', ⟨by have := HJ2.out; first | omega | exact Nat.le_refl _⟩, ⟨by (with_reducible repeat (first | refine blk_drewN ?_ _ | refine blk_drew ?_ | refine blk_alloc ?_ _)); exact BK163.out⟩, ⟨by (with_reducible repeat (first | refine blk_drewN ?_ _ | refine blk_drew ?_ | refine blk_alloc ?_ _)); exact BK164.out⟩, ⟨by repeat (first | (with_reducible first | exact HB.out | apply below_alloc | apply pw_below_drewN | apply below_drew1 | refine below_set ?_ GE163.out | refine below_set ?_ GE164.out) | exact HB.out)⟩⟩
              · replace c31 := Bool.eq_false_iff.mpr c31
                subst c31
                have H1 : (sensor_Print.j1 kj2 a1 false false a0_1 false a0_3 a0_4 a0_5 a0_6 a0_7 a0_8 a0_9 a0_10 l0_11 false a0_1 false a0_3) = some r := by rw [if_neg (show ¬ (false = true) by decide)] at H; exact H
                clear H
                have H := H1
                clear H1
                have H' := Aside0.mk H
                clear H
                have hnb34 := NB164_163.out
                have hnc34 := NB163_164.out
                have hcz35_0 : wc.cell? ⟨gb164, 0, none⟩ = some (.bool false) := (blk_cell BK164.out 0).trans rfl
                have hcz35_1 : wc.cell? ⟨gb164, 1, none⟩ = some (.bool a0_1) := (blk_cell BK164.out 1).trans rfl
                have hcz35_2 : wc.cell? ⟨gb164, 2, none⟩ = some (.bool false) := (blk_cell BK164.out 2).trans rfl
                have hcz35_3 : wc.cell? ⟨gb164, 3, none⟩ = some (.bool a0_3) := (blk_cell BK164.out 3).trans rfl
                have hfz35_0 := blk_frozen BK164.out 0
                have hfz35_1 := blk_frozen BK164.out 1
                have hfz35_2 := blk_frozen BK164.out 2
                have hfz35_3 := blk_frozen BK164.out 3
                go_wp2
                go_meet
                case rel => exact ⟨_, (false), (by first | rfl | (simp; done) | (simp [*]; done)), H', ⟨by have := HJ2.out; first | omega | exact Nat.le_refl _⟩, ⟨by (with_reducible repeat (first | refine blk_drewN ?_ _ | refine blk_drew ?_ | refine blk_alloc ?_ _)); exact BK163.out⟩, ⟨by (with_reducible repeat (first | refine blk_drewN ?_ _ | refine blk_drew ?_ | refine blk_alloc ?_ _)); exact BK164.out⟩, ⟨by repeat (first | (with_reducible first | exact HB.out | apply below_alloc | apply pw_below_drewN | apply below_drew1 | refine below_set ?_ GE163.out | refine below_set ?_ GE164.out) | exact HB.out)⟩⟩
          · rw [if_neg c21] at H
            have c21b0 : (a1 == 0) = false := beq_eq_false_iff_ne.mpr c21
            have c21b1 : (a1 != 0) = true := bne_iff_ne.mpr c21
            (first | rw [c21b0] | (simp only [i64_w, i32_w]; rw [c21b0]) | skip)
            have H' := Aside0.mk H
            clear H
            go_wp2
            go_meet
            case rel => exact ⟨_, (false), (by first | rfl | (simp; done) | (simp [*]; done)), H', ⟨by have := HJ2.out; first | omega | exact Nat.le_refl _⟩, ⟨by (with_reducible repeat (first | refine blk_drewN ?_ _ | refine blk_drew ?_ | refine blk_alloc ?_ _)); exact BK163.out⟩, ⟨by (with_reducible repeat (first | refine blk_drewN ?_ _ | refine blk_drew ?_ | refine blk_alloc ?_ _)); exact BK164.out⟩, ⟨by repeat (first | (with_reducible first | exact HB.out | apply below_alloc | apply pw_below_drewN | apply below_drew1 | refine below_set ?_ GE163.out | refine below_set ?_ GE164.out) | exact HB.out)⟩⟩
        case rest =>
          clear HC20
          try clear c1
          try clear p1
          try clear q1
          try clear hx1
          try clear c2
          try clear p2
          try clear c3
          try clear p6
          try clear c7
          try clear c9
          try clear c9b0
          try clear c10
          try clear c12
          try clear c14
          try clear c14b0
          try clear c15
          try clear c15b0
          try clear p16
          try clear q16
          try clear hx16
          try clear c17
          try clear c21
          try clear c21b0
          try clear c21b1
          try clear c22
          try clear c23
          try clear c24
          try clear c26
          try clear c27
          try clear c28
          try clear c29
          try clear c31
          try clear c32
          try clear c34
          try clear hcz11_0
          try clear hcz11_1
          try clear hcz11_10
          try clear hcz11_11
          try clear hcz11_2
          try clear hcz11_3
          try clear hcz11_4
          try clear hcz11_5
          try clear hcz11_6
          try clear hcz11_7
          try clear hcz11_8
          try clear hcz11_9
          try clear hcz18_0
          try clear hcz18_1
          try clear hcz18_10
          try clear hcz18_11
          try clear hcz18_2
          try clear hcz18_3
          try clear hcz18_4
          try clear hcz18_5
          try clear hcz18_6
          try clear hcz18_7
          try clear hcz18_8
          try clear hcz18_9
          try clear hcz25_0
          try clear hcz25_1
          try clear hcz25_2
          try clear hcz25_3
          try clear hcz28_0
          try clear hcz28_1
          try clear hcz28_2
          try clear hcz28_3
          try clear hcz30_0
          try clear hcz30_1
          try clear hcz30_2
          try clear hcz30_3
          try clear hcz33_0
          try clear hcz33_1
          try clear hcz33_2
          try clear hcz33_3
          try clear hcz35_0
          try clear hcz35_1
          try clear hcz35_2
          try clear hcz35_3
          try clear hcz5_0
          try clear hcz5_1
          try clear hcz5_10
          try clear hcz5_11
          try clear hcz5_2
          try clear hcz5_3
          try clear hcz5_4
          try clear hcz5_5
          try clear hcz5_6
          try clear hcz5_7
          try clear hcz5_8
          try clear hcz5_9
          try clear hcz8_0
          try clear hcz8_1
          try clear hcz8_2
          try clear hcz8_3
          try clear hfz11_0
          try clear hfz11_1
          try clear hfz11_10
          try clear hfz11_11
          try clear hfz11_2
          try clear hfz11_3
          try clear hfz11_4
          try clear hfz11_5
          try clear hfz11_6
          try clear hfz11_7
          try clear hfz11_8
          try clear hfz11_9
          try clear hfz18_0
          try clear hfz18_1
          try clear hfz18_10
          try clear hfz18_11
          try clear hfz18_2
          try clear hfz18_3
          try clear hfz18_4
          try clear hfz18_5
          try clear hfz18_6
          try clear hfz18_7
          try clear hfz18_8
          try clear hfz18_9
          try clear hfz25_0
          try clear hfz25_1
          try clear hfz25_2
          try clear hfz25_3
          try clear hfz28_0
          try clear hfz28_1
          try clear hfz28_2
          try clear hfz28_3
          try clear hfz30_0
          try clear hfz30_1
          try clear hfz30_2
          try clear hfz30_3
          try clear hfz33_0
          try clear hfz33_1
          try clear hfz33_2
          try clear hfz33_3
          try clear hfz35_0
          try clear hfz35_1
          try clear hfz35_2
          try clear hfz35_3
          try clear hfz5_0
          try clear hfz5_1
          try clear hfz5_10
          try clear hfz5_11
          try clear hfz5_2
          try clear hfz5_3
          try clear hfz5_4
          try clear hfz5_5
          try clear hfz5_6
          try clear hfz5_7
          try clear hfz5_8
          try clear hfz5_9
          try clear hfz8_0
          try clear hfz8_1
          try clear hfz8_2
          try clear hfz8_3
          try clear hx165_0
          try clear hx165_1
          try clear hx165_2
          try clear hx165_3
          try clear hx165_4
          try clear p165
          try clear p2
          try clear p6
          try clear q165
          obtain ⟨kq, x26_19, rfl, HA, HJ19, BK163, BK164, HB⟩ := hcut
          cases kq with
          | zero => exact absurd HA.out (by simp [sensor_Print.j1])
          | succ kj19 =>
            have H := HA.out
            clear HA
            simp only [sensor_Print.j1] at H
            by_cases c36 : x26_19 = true
            · subst c36
              have H1 : (some ([] : List Int)) = some r := by rw [if_pos rfl] at H; exact H
              clear H
              have H := H1
              clear H1
              obtain rfl := Option.some.inj H
              go_wp2
              go_ret
              exact ⟨_, by first | rfl | (simp [errW_none, errW_some] <;> rfl) | (simp [*, errW_none, errW_some] <;> rfl), by first | exact Kd.R_nil _ _ _ _ _ | exact Kd.N_nil _ _ _ _ _ | exact Kd.V_nil _ _ _ _ _ | exact Kd.Q_nil _ _ _ _ _ | exact Kd.S_nil _ _ _ _ _, by repeat (first | (with_reducible first | exact HB.out | apply below_alloc | apply pw_below_drewN | apply below_drew1 | refine below_set ?_ GE163.out | refine below_set ?_ GE164.out) | exact HB.out)⟩
            · replace c36 := Bool.eq_false_iff.mpr c36
              subst c36
              have H1 : (if a1 = 0 then ((sensor_bits.f kj19 (([a0_0, a0_1, a0_2, a0_3] : List Bool))).bind fun t172 => (some t172)) else (if a1 = 1 then ((sensor_bits.f kj19 (([a0_5] : List Bool))).bind fun t178 => (some t178)) else (if a1 = 2 then ((sensor_bits.f kj19 (([a0_6] : List Bool))).bind fun t184 => (some t184)) else (if a1 = 3 then ((sensor_number.f a0_7 3).bind fun t187 => (some t187)) else (if a1 = 4 then ((sensor_bits.f kj19 (([a0_8, a0_9] : List Bool))).bind fun t193 => (some t193)) else (if a1 = 5 then ((sensor_number.f a0_10 256).bind fun t196 => (some t196)) else (some ([] : List Int)))))))) = some r := by rw [if_neg (show ¬ (false = true) by decide)] at H; exact H
              clear H
              have H := H1
              clear H1
              by_cases c37 : a1 = 0
              · rw [if_pos c37] at H
                have c37b0 : (a1 == 0) = true := beq_iff_eq.mpr c37
                have c37b1 : (a1 != 0) = false := bne_eq_false_iff_eq.mpr c37
                clear c37
                obtain ⟨y169, hy169⟩ : ∃ y_ : List Bool, y_ = (([a0_0, a0_1, a0_2, a0_3] : List Bool)) := ⟨_, rfl⟩
                replace H : ((sensor_bits.f kj19 y169).bind fun t172 => (some t172)) = some r := by first | (rw [hy169]; with_reducible exact H) | (have H2_ := (Option.bind_some _ _).symm.trans H; rw [hy169]; with_reducible exact H2_) | (have H2_ := (Option.bind_some _ _).symm.trans H; with_reducible exact H2_) | with_reducible exact H | (rw [hy169]; exact H) | exact H
                have Ny169 := Aside0.mk hy169
                clear hy169
                replace H := Option.bind_eq_some_iff.mp H
                obtain ⟨t172, A380, H⟩ := H
                replace H : (some t172) = some r := H
                have A38 := Aside0.mk A380
                clear A380
                obtain rfl := Option.some.inj H
                have hnb39 := NB164_163.out
                have hnc39 := NB163_164.out
                have hcz40_0 : wc.cell? ⟨gb164, 0, none⟩ = some (.bool a0_0) := (blk_cell BK164.out 0).trans rfl
                have hcz40_1 : wc.cell? ⟨gb164, 1, none⟩ = some (.bool a0_1) := (blk_cell BK164.out 1).trans rfl
                have hcz40_2 : wc.cell? ⟨gb164, 2, none⟩ = some (.bool a0_2) := (blk_cell BK164.out 2).trans rfl
                have hcz40_3 : wc.cell? ⟨gb164, 3, none⟩ = some (.bool a0_3) := (blk_cell BK164.out 3).trans rfl
                have hfz40_0 := blk_frozen BK164.out 0
                have hfz40_1 := blk_frozen BK164.out 1
                have hfz40_2 := blk_frozen BK164.out 2
                have hfz40_3 := blk_frozen BK164.out 3
                go_wp2_with (first | ((with_reducible refine gate_dst (N := 56) rfl ?_); (try (refine gate_guard (by rfl) ?_; dsimp only)); refine Kd.R_lit Kd.bool _ 4 ?hg (N := 56) ?hd (xs := ([a0_0, a0_1, a0_2, a0_3] : List Bool)) (inner := [.bool a0_0, .bool a0_1, .bool a0_2, .bool a0_3]) (ok := fun _ => True) (okp := fun _ => True) ?hr ?hp (fun _ hk => hk) trivial (Below.refl _ _) (Nat.le_refl _) (by simp) ?_; (case hd => rfl); (case hg => rfl); (case hr => first | (go_simp; done) | (go_simp; rfl)); (case hp => exact (Reps.one (show Kd.M Kd.bool _ _ _ a0_0 [.bool a0_0] from rfl) (Reps.one (show Kd.M Kd.bool _ _ _ a0_1 [.bool a0_1] from rfl) (Reps.one (show Kd.M Kd.bool _ _ _ a0_2 [.bool a0_2] from rfl) (Reps.one (show Kd.M Kd.bool _ _ _ a0_3 [.bool a0_3] from rfl) (Reps.none _ _)))))); intro v170 w41 ho42 hb hg_ hnew_; clear hg_ hnew_; (first | rw [← Ny169.out] at ho42 | (simp only [Int.reduceToNat] at ho42; rw [← Ny169.out] at ho42)); have n0_ := Aside0.mk (Kd.R_lower ho42 (below_size (by repeat (first | (with_reducible first | exact HB.out | apply below_alloc | apply pw_below_drewN | apply below_drew1 | refine below_set ?_ GE163.out | refine below_set ?_ GE164.out) | exact HB.out)))); have n1_ := Aside0.mk (blk_below (g := gb163) (o := .cells #[.bool a0_0, .bool a0_1, .bool a0_2, .bool a0_3, .bool a0_4, .bool a0_5, .bool a0_6, .int .i64 a0_7, .bool a0_8, .bool a0_9, .int .i64 a0_10, .slice A0_11 l0_11.length c0_11] 38 (0, 0)) (by (with_reducible repeat (first | refine blk_drewN ?_ _ | refine blk_drew ?_ | refine blk_alloc ?_ _)); exact BK163.out) hb); have n2_ := Aside0.mk (blk_below (g := gb164) (o := .cells #[.bool a0_0, .bool a0_1, .bool a0_2, .bool a0_3] 27 (0, 0)) (by (with_reducible repeat (first | refine blk_drewN ?_ _ | refine blk_drew ?_ | refine blk_alloc ?_ _)); exact BK164.out) hb); have n3_ := Aside0.mk (below_step (by repeat (first | (with_reducible first | exact HB.out | apply below_alloc | apply pw_below_drewN | apply below_drew1 | refine below_set ?_ GE163.out | refine below_set ?_ GE164.out) | exact HB.out)) hb); clear BK163; clear BK164; clear HB; have HO171 := n0_; have BK163 := n1_; have BK164 := n2_; have HB := n3_; clear n0_ n1_ n2_ n3_; clear hb ho42; obtain ⟨Ao43, co43, eo43⟩ := Kd.R_slice HO171.out; subst eo43) | ((with_reducible refine gate_callee (f := 29) rfl ?_); refine goesL_ (some 57) rfl rfl Try.func29 (by kernel_rfl) rfl #[.slice Ao43 y169.length co43] rfl (by (try simp only [List.map_toArray, List.map_cons, List.map_nil]); first | done | rfl | (simp only [List.length_drop, List.length_take]; rfl)) ?_; (with_reducible refine (sensor_bits.calls kj19 _ _ y169 t172 _ ?side1 ?side2 A38.out).mono ?_); (case side1 => repeat (first | exact (Kd.R_reads' HO171.out).2.2 | (with_reducible refine Kd.C_alloc ?_ _) | (with_reducible refine Kd.C_drewN ?_ _) | (with_reducible refine Kd.C_drew ?_))); (case side2 => exact (Kd.R_reads' HO171.out).2.1); rintro e w44 ⟨v173, rfl, ho0, hb⟩; refine ⟨_, rfl, ?_⟩; have n0_ := Aside0.mk (Kd.R_below (by (with_reducible repeat (first | apply Kd.R_alloc | apply Kd.R_drewN | apply Kd.R_drew)); exact HO171.out) hb); have n1_ := Aside0.mk (Kd.R_lower ho0 (below_size (by repeat (first | (with_reducible first | exact HB.out | apply below_alloc | apply pw_below_drewN | apply below_drew1 | refine below_set ?_ GE163.out | refine below_set ?_ GE164.out) | exact HB.out)))); have n2_ := Aside0.mk (blk_below (g := gb163) (o := .cells #[.bool a0_0, .bool a0_1, .bool a0_2, .bool a0_3, .bool a0_4, .bool a0_5, .bool a0_6, .int .i64 a0_7, .bool a0_8, .bool a0_9, .int .i64 a0_10, .slice A0_11 l0_11.length c0_11] 38 (0, 0)) (by (with_reducible repeat (first | refine blk_drewN ?_ _ | refine blk_drew ?_ | refine blk_alloc ?_ _)); exact BK163.out) hb); have n3_ := Aside0.mk (blk_below (g := gb164) (o := .cells #[.bool a0_0, .bool a0_1, .bool a0_2, .bool a0_3] 27 (0, 0)) (by (with_reducible repeat (first | refine blk_drewN ?_ _ | refine blk_drew ?_ | refine blk_alloc ?_ _)); exact BK164.out) hb); have n4_ := Aside0.mk (below_step (by repeat (first | (with_reducible first | exact HB.out | apply below_alloc | apply pw_below_drewN | apply below_drew1 | refine below_set ?_ GE163.out | refine below_set ?_ GE164.out) | exact HB.out)) hb); clear HO171; clear BK163; clear BK164; clear HB; have HO171 := n0_; have HO174 := n1_; have BK163 := n2_; have BK164 := n3_; have HB := n4_; clear n0_ n1_ n2_ n3_ n4_; (try clear hb); (try clear hb2); (try clear hk); (try clear hi); (try clear ho0)))
                go_ret
                exact ⟨_, by first | rfl | (simp [errW_none, errW_some] <;> rfl) | (simp [*, errW_none, errW_some] <;> rfl), by (with_reducible repeat (first | apply Kd.R_alloc | apply Kd.R_drewN | apply Kd.R_drew)); exact HO174.out, by repeat (first | (with_reducible first | exact HB.out | apply below_alloc | apply pw_below_drewN | apply below_drew1 | refine below_set ?_ GE163.out | refine below_set ?_ GE164.out) | exact HB.out)⟩
              · rw [if_neg c37] at H
                have c37b0 : (a1 == 0) = false := beq_eq_false_iff_ne.mpr c37
                have c37b1 : (a1 != 0) = true := bne_iff_ne.mpr c37
                by_cases c45 : a1 = 1
                · rw [if_pos c45] at H
                  have c45b0 : (a1 == 1) = true := beq_iff_eq.mpr c45
                  have c45b1 : (a1 != 1) = false := bne_eq_false_iff_eq.mpr c45
                  clear c45
                  obtain ⟨y175, hy175⟩ : ∃ y_ : List Bool, y_ = (([a0_5] : List Bool)) := ⟨_, rfl⟩
                  replace H : ((sensor_bits.f kj19 y175).bind fun t178 => (some t178)) = some r := by first | (rw [hy175]; with_reducible exact H) | (have H2_ := (Option.bind_some _ _).symm.trans H; rw [hy175]; with_reducible exact H2_) | (have H2_ := (Option.bind_some _ _).symm.trans H; with_reducible exact H2_) | with_reducible exact H | (rw [hy175]; exact H) | exact H
                  have Ny175 := Aside0.mk hy175
                  clear hy175
                  replace H := Option.bind_eq_some_iff.mp H
                  obtain ⟨t178, A460, H⟩ := H
                  replace H : (some t178) = some r := H
                  have A46 := Aside0.mk A460
                  clear A460
                  obtain rfl := Option.some.inj H
                  have hnb47 := NB163_164.out
                  have hnc47 := NB164_163.out
                  have hcz48_0 : wc.cell? ⟨gb163, 0, none⟩ = some (.bool a0_0) := (blk_cell BK163.out 0).trans rfl
                  have hcz48_1 : wc.cell? ⟨gb163, 1, none⟩ = some (.bool a0_1) := (blk_cell BK163.out 1).trans rfl
                  have hcz48_2 : wc.cell? ⟨gb163, 2, none⟩ = some (.bool a0_2) := (blk_cell BK163.out 2).trans rfl
                  have hcz48_3 : wc.cell? ⟨gb163, 3, none⟩ = some (.bool a0_3) := (blk_cell BK163.out 3).trans rfl
                  have hcz48_4 : wc.cell? ⟨gb163, 4, none⟩ = some (.bool a0_4) := (blk_cell BK163.out 4).trans rfl
                  have hcz48_5 : wc.cell? ⟨gb163, 5, none⟩ = some (.bool a0_5) := (blk_cell BK163.out 5).trans rfl
                  have hcz48_6 : wc.cell? ⟨gb163, 6, none⟩ = some (.bool a0_6) := (blk_cell BK163.out 6).trans rfl
                  have hcz48_7 : wc.cell? ⟨gb163, 7, none⟩ = some (.int .i64 a0_7) := (blk_cell BK163.out 7).trans rfl
                  have hcz48_8 : wc.cell? ⟨gb163, 8, none⟩ = some (.bool a0_8) := (blk_cell BK163.out 8).trans rfl
                  have hcz48_9 : wc.cell? ⟨gb163, 9, none⟩ = some (.bool a0_9) := (blk_cell BK163.out 9).trans rfl
                  have hcz48_10 : wc.cell? ⟨gb163, 10, none⟩ = some (.int .i64 a0_10) := (blk_cell BK163.out 10).trans rfl
                  have hcz48_11 : wc.cell? ⟨gb163, 11, none⟩ = some (.slice A0_11 l0_11.length c0_11) := (blk_cell BK163.out 11).trans rfl
                  have hfz48_0 := blk_frozen BK163.out 0
                  have hfz48_1 := blk_frozen BK163.out 1
                  have hfz48_2 := blk_frozen BK163.out 2
                  have hfz48_3 := blk_frozen BK163.out 3
                  have hfz48_4 := blk_frozen BK163.out 4
                  have hfz48_5 := blk_frozen BK163.out 5
                  have hfz48_6 := blk_frozen BK163.out 6
                  have hfz48_7 := blk_frozen BK163.out 7
                  have hfz48_8 := blk_frozen BK163.out 8
                  have hfz48_9 := blk_frozen BK163.out 9
                  have hfz48_10 := blk_frozen BK163.out 10
                  have hfz48_11 := blk_frozen BK163.out 11
                  go_wp2_with (first | ((with_reducible refine gate_dst (N := 63) rfl ?_); (try (refine gate_guard (by rfl) ?_; dsimp only)); refine Kd.R_lit Kd.bool _ 4 ?hg (N := 63) ?hd (xs := ([a0_5] : List Bool)) (inner := [.bool a0_5]) (ok := fun _ => True) (okp := fun _ => True) ?hr ?hp (fun _ hk => hk) trivial (Below.refl _ _) (Nat.le_refl _) (by simp) ?_; (case hd => rfl); (case hg => rfl); (case hr => first | (go_simp; done) | (go_simp; rfl)); (case hp => exact (Reps.one (show Kd.M Kd.bool _ _ _ a0_5 [.bool a0_5] from rfl) (Reps.none _ _))); intro v176 w49 ho50 hb hg_ hnew_; clear hg_ hnew_; (first | rw [← Ny175.out] at ho50 | (simp only [Int.reduceToNat] at ho50; rw [← Ny175.out] at ho50)); have n0_ := Aside0.mk (Kd.R_lower ho50 (below_size (by repeat (first | (with_reducible first | exact HB.out | apply below_alloc | apply pw_below_drewN | apply below_drew1 | refine below_set ?_ GE163.out | refine below_set ?_ GE164.out) | exact HB.out)))); have n1_ := Aside0.mk (blk_below (g := gb163) (o := .cells #[.bool a0_0, .bool a0_1, .bool a0_2, .bool a0_3, .bool a0_4, .bool a0_5, .bool a0_6, .int .i64 a0_7, .bool a0_8, .bool a0_9, .int .i64 a0_10, .slice A0_11 l0_11.length c0_11] 38 (0, 0)) (by (with_reducible repeat (first | refine blk_drewN ?_ _ | refine blk_drew ?_ | refine blk_alloc ?_ _)); exact BK163.out) hb); have n2_ := Aside0.mk (blk_below (g := gb164) (o := .cells #[.bool a0_0, .bool a0_1, .bool a0_2, .bool a0_3] 27 (0, 0)) (by (with_reducible repeat (first | refine blk_drewN ?_ _ | refine blk_drew ?_ | refine blk_alloc ?_ _)); exact BK164.out) hb); have n3_ := Aside0.mk (below_step (by repeat (first | (with_reducible first | exact HB.out | apply below_alloc | apply pw_below_drewN | apply below_drew1 | refine below_set ?_ GE163.out | refine below_set ?_ GE164.out) | exact HB.out)) hb); clear BK163; clear BK164; clear HB; have HO177 := n0_; have BK163 := n1_; have BK164 := n2_; have HB := n3_; clear n0_ n1_ n2_ n3_; clear hb ho50; obtain ⟨Ao51, co51, eo51⟩ := Kd.R_slice HO177.out; subst eo51) | ((with_reducible refine gate_callee (f := 29) rfl ?_); refine goesL_ (some 64) rfl rfl Try.func29 (by kernel_rfl) rfl #[.slice Ao51 y175.length co51] rfl (by (try simp only [List.map_toArray, List.map_cons, List.map_nil]); first | done | rfl | (simp only [List.length_drop, List.length_take]; rfl)) ?_; (with_reducible refine (sensor_bits.calls kj19 _ _ y175 t178 _ ?side1 ?side2 A46.out).mono ?_); (case side1 => repeat (first | exact (Kd.R_reads' HO177.out).2.2 | (with_reducible refine Kd.C_alloc ?_ _) | (with_reducible refine Kd.C_drewN ?_ _) | (with_reducible refine Kd.C_drew ?_))); (case side2 => exact (Kd.R_reads' HO177.out).2.1); rintro e w52 ⟨v179, rfl, ho0, hb⟩; refine ⟨_, rfl, ?_⟩; have n0_ := Aside0.mk (Kd.R_below (by (with_reducible repeat (first | apply Kd.R_alloc | apply Kd.R_drewN | apply Kd.R_drew)); exact HO177.out) hb); have n1_ := Aside0.mk (Kd.R_lower ho0 (below_size (by repeat (first | (with_reducible first | exact HB.out | apply below_alloc | apply pw_below_drewN | apply below_drew1 | refine below_set ?_ GE163.out | refine below_set ?_ GE164.out) | exact HB.out)))); have n2_ := Aside0.mk (blk_below (g := gb163) (o := .cells #[.bool a0_0, .bool a0_1, .bool a0_2, .bool a0_3, .bool a0_4, .bool a0_5, .bool a0_6, .int .i64 a0_7, .bool a0_8, .bool a0_9, .int .i64 a0_10, .slice A0_11 l0_11.length c0_11] 38 (0, 0)) (by (with_reducible repeat (first | refine blk_drewN ?_ _ | refine blk_drew ?_ | refine blk_alloc ?_ _)); exact BK163.out) hb); have n3_ := Aside0.mk (blk_below (g := gb164) (o := .cells #[.bool a0_0, .bool a0_1, .bool a0_2, .bool a0_3] 27 (0, 0)) (by (with_reducible repeat (first | refine blk_drewN ?_ _ | refine blk_drew ?_ | refine blk_alloc ?_ _)); exact BK164.out) hb); have n4_ := Aside0.mk (below_step (by repeat (first | (with_reducible first | exact HB.out | apply below_alloc | apply pw_below_drewN | apply below_drew1 | refine below_set ?_ GE163.out | refine below_set ?_ GE164.out) | exact HB.out)) hb); clear HO177; clear BK163; clear BK164; clear HB; have HO177 := n0_; have HO180 := n1_; have BK163 := n2_; have BK164 := n3_; have HB := n4_; clear n0_ n1_ n2_ n3_ n4_; (try clear hb); (try clear hb2); (try clear hk); (try clear hi); (try clear ho0)))
                  go_ret
                  exact ⟨_, by first | rfl | (simp [errW_none, errW_some] <;> rfl) | (simp [*, errW_none, errW_some] <;> rfl), by (with_reducible repeat (first | apply Kd.R_alloc | apply Kd.R_drewN | apply Kd.R_drew)); exact HO180.out, by repeat (first | (with_reducible first | exact HB.out | apply below_alloc | apply pw_below_drewN | apply below_drew1 | refine below_set ?_ GE163.out | refine below_set ?_ GE164.out) | exact HB.out)⟩
                · rw [if_neg c45] at H
                  have c45b0 : (a1 == 1) = false := beq_eq_false_iff_ne.mpr c45
                  have c45b1 : (a1 != 1) = true := bne_iff_ne.mpr c45
                  by_cases c53 : a1 = 2
                  · rw [if_pos c53] at H
                    have c53b0 : (a1 == 2) = true := beq_iff_eq.mpr c53
                    have c53b1 : (a1 != 2) = false := bne_eq_false_iff_eq.mpr c53
                    clear c53
                    obtain ⟨y181, hy181⟩ : ∃ y_ : List Bool, y_ = (([a0_6] : List Bool)) := ⟨_, rfl⟩
                    replace H : ((sensor_bits.f kj19 y181).bind fun t184 => (some t184)) = some r := by first | (rw [hy181]; with_reducible exact H) | (have H2_ := (Option.bind_some _ _).symm.trans H; rw [hy181]; with_reducible exact H2_) | (have H2_ := (Option.bind_some _ _).symm.trans H; with_reducible exact H2_) | with_reducible exact H | (rw [hy181]; exact H) | exact H
                    have Ny181 := Aside0.mk hy181
                    clear hy181
                    replace H := Option.bind_eq_some_iff.mp H
                    obtain ⟨t184, A540, H⟩ := H
                    replace H : (some t184) = some r := H
                    have A54 := Aside0.mk A540
                    clear A540
                    obtain rfl := Option.some.inj H
                    have hnb55 := NB163_164.out
                    have hnc55 := NB164_163.out
                    have hcz56_0 : wc.cell? ⟨gb163, 0, none⟩ = some (.bool a0_0) := (blk_cell BK163.out 0).trans rfl
                    have hcz56_1 : wc.cell? ⟨gb163, 1, none⟩ = some (.bool a0_1) := (blk_cell BK163.out 1).trans rfl
                    have hcz56_2 : wc.cell? ⟨gb163, 2, none⟩ = some (.bool a0_2) := (blk_cell BK163.out 2).trans rfl
                    have hcz56_3 : wc.cell? ⟨gb163, 3, none⟩ = some (.bool a0_3) := (blk_cell BK163.out 3).trans rfl
                    have hcz56_4 : wc.cell? ⟨gb163, 4, none⟩ = some (.bool a0_4) := (blk_cell BK163.out 4).trans rfl
                    have hcz56_5 : wc.cell? ⟨gb163, 5, none⟩ = some (.bool a0_5) := (blk_cell BK163.out 5).trans rfl
                    have hcz56_6 : wc.cell? ⟨gb163, 6, none⟩ = some (.bool a0_6) := (blk_cell BK163.out 6).trans rfl
                    have hcz56_7 : wc.cell? ⟨gb163, 7, none⟩ = some (.int .i64 a0_7) := (blk_cell BK163.out 7).trans rfl
                    have hcz56_8 : wc.cell? ⟨gb163, 8, none⟩ = some (.bool a0_8) := (blk_cell BK163.out 8).trans rfl
                    have hcz56_9 : wc.cell? ⟨gb163, 9, none⟩ = some (.bool a0_9) := (blk_cell BK163.out 9).trans rfl
                    have hcz56_10 : wc.cell? ⟨gb163, 10, none⟩ = some (.int .i64 a0_10) := (blk_cell BK163.out 10).trans rfl
                    have hcz56_11 : wc.cell? ⟨gb163, 11, none⟩ = some (.slice A0_11 l0_11.length c0_11) := (blk_cell BK163.out 11).trans rfl
                    have hfz56_0 := blk_frozen BK163.out 0
                    have hfz56_1 := blk_frozen BK163.out 1
                    have hfz56_2 := blk_frozen BK163.out 2
                    have hfz56_3 := blk_frozen BK163.out 3
                    have hfz56_4 := blk_frozen BK163.out 4
                    have hfz56_5 := blk_frozen BK163.out 5
                    have hfz56_6 := blk_frozen BK163.out 6
                    have hfz56_7 := blk_frozen BK163.out 7
                    have hfz56_8 := blk_frozen BK163.out 8
                    have hfz56_9 := blk_frozen BK163.out 9
                    have hfz56_10 := blk_frozen BK163.out 10
                    have hfz56_11 := blk_frozen BK163.out 11
                    go_wp2_with (first | ((with_reducible refine gate_dst (N := 70) rfl ?_); (try (refine gate_guard (by rfl) ?_; dsimp only)); refine Kd.R_lit Kd.bool _ 4 ?hg (N := 70) ?hd (xs := ([a0_6] : List Bool)) (inner := [.bool a0_6]) (ok := fun _ => True) (okp := fun _ => True) ?hr ?hp (fun _ hk => hk) trivial (Below.refl _ _) (Nat.le_refl _) (by simp) ?_; (case hd => rfl); (case hg => rfl); (case hr => first | (go_simp; done) | (go_simp; rfl)); (case hp => exact (Reps.one (show Kd.M Kd.bool _ _ _ a0_6 [.bool a0_6] from rfl) (Reps.none _ _))); intro v182 w57 ho58 hb hg_ hnew_; clear hg_ hnew_; (first | rw [← Ny181.out] at ho58 | (simp only [Int.reduceToNat] at ho58; rw [← Ny181.out] at ho58)); have n0_ := Aside0.mk (Kd.R_lower ho58 (below_size (by repeat (first | (with_reducible first | exact HB.out | apply below_alloc | apply pw_below_drewN | apply below_drew1 | refine below_set ?_ GE163.out | refine below_set ?_ GE164.out) | exact HB.out)))); have n1_ := Aside0.mk (blk_below (g := gb163) (o := .cells #[.bool a0_0, .bool a0_1, .bool a0_2, .bool a0_3, .bool a0_4, .bool a0_5, .bool a0_6, .int .i64 a0_7, .bool a0_8, .bool a0_9, .int .i64 a0_10, .slice A0_11 l0_11.length c0_11] 38 (0, 0)) (by (with_reducible repeat (first | refine blk_drewN ?_ _ | refine blk_drew ?_ | refine blk_alloc ?_ _)); exact BK163.out) hb); have n2_ := Aside0.mk (blk_below (g := gb164) (o := .cells #[.bool a0_0, .bool a0_1, .bool a0_2, .bool a0_3] 27 (0, 0)) (by (with_reducible repeat (first | refine blk_drewN ?_ _ | refine blk_drew ?_ | refine blk_alloc ?_ _)); exact BK164.out) hb); have n3_ := Aside0.mk (below_step (by repeat (first | (with_reducible first | exact HB.out | apply below_alloc | apply pw_below_drewN | apply below_drew1 | refine below_set ?_ GE163.out | refine below_set ?_ GE164.out) | exact HB.out)) hb); clear BK163; clear BK164; clear HB; have HO183 := n0_; have BK163 := n1_; have BK164 := n2_; have HB := n3_; clear n0_ n1_ n2_ n3_; clear hb ho58; obtain ⟨Ao59, co59, eo59⟩ := Kd.R_slice HO183.out; subst eo59) | ((with_reducible refine gate_callee (f := 29) rfl ?_); refine goesL_ (some 71) rfl rfl Try.func29 (by kernel_rfl) rfl #[.slice Ao59 y181.length co59] rfl (by (try simp only [List.map_toArray, List.map_cons, List.map_nil]); first | done | rfl | (simp only [List.length_drop, List.length_take]; rfl)) ?_; (with_reducible refine (sensor_bits.calls kj19 _ _ y181 t184 _ ?side1 ?side2 A54.out).mono ?_); (case side1 => repeat (first | exact (Kd.R_reads' HO183.out).2.2 | (with_reducible refine Kd.C_alloc ?_ _) | (with_reducible refine Kd.C_drewN ?_ _) | (with_reducible refine Kd.C_drew ?_))); (case side2 => exact (Kd.R_reads' HO183.out).2.1); rintro e w60 ⟨v185, rfl, ho0, hb⟩; refine ⟨_, rfl, ?_⟩; have n0_ := Aside0.mk (Kd.R_below (by (with_reducible repeat (first | apply Kd.R_alloc | apply Kd.R_drewN | apply Kd.R_drew)); exact HO183.out) hb); have n1_ := Aside0.mk (Kd.R_lower ho0 (below_size (by repeat (first | (with_reducible first | exact HB.out | apply below_alloc | apply pw_below_drewN | apply below_drew1 | refine below_set ?_ GE163.out | refine below_set ?_ GE164.out) | exact HB.out)))); have n2_ := Aside0.mk (blk_below (g := gb163) (o := .cells #[.bool a0_0, .bool a0_1, .bool a0_2, .bool a0_3, .bool a0_4, .bool a0_5, .bool a0_6, .int .i64 a0_7, .bool a0_8, .bool a0_9, .int .i64 a0_10, .slice A0_11 l0_11.length c0_11] 38 (0, 0)) (by (with_reducible repeat (first | refine blk_drewN ?_ _ | refine blk_drew ?_ | refine blk_alloc ?_ _)); exact BK163.out) hb); have n3_ := Aside0.mk (blk_below (g := gb164) (o := .cells #[.bool a0_0, .bool a0_1, .bool a0_2, .bool a0_3] 27 (0, 0)) (by (with_reducible repeat (first | refine blk_drewN ?_ _ | refine blk_drew ?_ | refine blk_alloc ?_ _)); exact BK164.out) hb); have n4_ := Aside0.mk (below_step (by repeat (first | (with_reducible first | exact HB.out | apply below_alloc | apply pw_below_drewN | apply below_drew1 | refine below_set ?_ GE163.out | refine below_set ?_ GE164.out) | exact HB.out)) hb); clear HO183; clear BK163; clear BK164; clear HB; have HO183 := n0_; have HO186 := n1_; have BK163 := n2_; have BK164 := n3_; have HB := n4_; clear n0_ n1_ n2_ n3_ n4_; (try clear hb); (try clear hb2); (try clear hk); (try clear hi); (try clear ho0)))
                    go_ret
                    exact ⟨_, by first | rfl | (simp [errW_none, errW_some] <;> rfl) | (simp [*, errW_none, errW_some] <;> rfl), by (with_reducible repeat (first | apply Kd.R_alloc | apply Kd.R_drewN | apply Kd.R_drew)); exact HO186.out, by repeat (first | (with_reducible first | exact HB.out | apply below_alloc | apply pw_below_drewN | apply below_drew1 | refine below_set ?_ GE163.out | refine below_set ?_ GE164.out) | exact HB.out)⟩
                  · rw [if_neg c53] at H
                    have c53b0 : (a1 == 2) = false := beq_eq_false_iff_ne.mpr c53
                    have c53b1 : (a1 != 2) = true := bne_iff_ne.mpr c53
                    by_cases c61 : a1 = 3
                    · rw [if_pos c61] at H
                      have c61b0 : (a1 == 3) = true := beq_iff_eq.mpr c61
                      have c61b1 : (a1 != 3) = false := bne_eq_false_iff_eq.mpr c61
                      clear c61
                      replace H := Option.bind_eq_some_iff.mp H
                      obtain ⟨t187, A620, H⟩ := H
                      replace H : (some t187) = some r := H
                      have A62 := Aside0.mk A620
                      clear A620
                      obtain rfl := Option.some.inj H
                      have hnb63 := NB163_164.out
                      have hnc63 := NB164_163.out
                      have hcz64_0 : wc.cell? ⟨gb163, 0, none⟩ = some (.bool a0_0) := (blk_cell BK163.out 0).trans rfl
                      have hcz64_1 : wc.cell? ⟨gb163, 1, none⟩ = some (.bool a0_1) := (blk_cell BK163.out 1).trans rfl
                      have hcz64_2 : wc.cell? ⟨gb163, 2, none⟩ = some (.bool a0_2) := (blk_cell BK163.out 2).trans rfl
                      have hcz64_3 : wc.cell? ⟨gb163, 3, none⟩ = some (.bool a0_3) := (blk_cell BK163.out 3).trans rfl
                      have hcz64_4 : wc.cell? ⟨gb163, 4, none⟩ = some (.bool a0_4) := (blk_cell BK163.out 4).trans rfl
                      have hcz64_5 : wc.cell? ⟨gb163, 5, none⟩ = some (.bool a0_5) := (blk_cell BK163.out 5).trans rfl
                      have hcz64_6 : wc.cell? ⟨gb163, 6, none⟩ = some (.bool a0_6) := (blk_cell BK163.out 6).trans rfl
                      have hcz64_7 : wc.cell? ⟨gb163, 7, none⟩ = some (.int .i64 a0_7) := (blk_cell BK163.out 7).trans rfl
                      have hcz64_8 : wc.cell? ⟨gb163, 8, none⟩ = some (.bool a0_8) := (blk_cell BK163.out 8).trans rfl
                      have hcz64_9 : wc.cell? ⟨gb163, 9, none⟩ = some (.bool a0_9) := (blk_cell BK163.out 9).trans rfl
                      have hcz64_10 : wc.cell? ⟨gb163, 10, none⟩ = some (.int .i64 a0_10) := (blk_cell BK163.out 10).trans rfl
                      have hcz64_11 : wc.cell? ⟨gb163, 11, none⟩ = some (.slice A0_11 l0_11.length c0_11) := (blk_cell BK163.out 11).trans rfl
                      have hfz64_0 := blk_frozen BK163.out 0
                      have hfz64_1 := blk_frozen BK163.out 1
                      have hfz64_2 := blk_frozen BK163.out 2
                      have hfz64_3 := blk_frozen BK163.out 3
                      have hfz64_4 := blk_frozen BK163.out 4
                      have hfz64_5 := blk_frozen BK163.out 5
                      have hfz64_6 := blk_frozen BK163.out 6
                      have hfz64_7 := blk_frozen BK163.out 7
                      have hfz64_8 := blk_frozen BK163.out 8
                      have hfz64_9 := blk_frozen BK163.out 9
                      have hfz64_10 := blk_frozen BK163.out 10
                      have hfz64_11 := blk_frozen BK163.out 11
                      go_wp2_with (first | ((with_reducible refine gate_callee (f := 30) rfl ?_); refine goesL_ (some 77) rfl rfl Try.func30 (by kernel_rfl) rfl #[.int .i64 a0_7, .int .i64 3] rfl (by (try simp only [List.map_toArray, List.map_cons, List.map_nil]); first | done | rfl | (simp only [List.length_drop, List.length_take]; rfl)) ?_; (with_reducible refine (sensor_number.calls a0_7 3 t187 _ A62.out).mono ?_); rintro e w65 ⟨v188, rfl, ho0, hb⟩; refine ⟨_, rfl, ?_⟩; have n0_ := Aside0.mk (Kd.R_lower ho0 (below_size (by repeat (first | (with_reducible first | exact HB.out | apply below_alloc | apply pw_below_drewN | apply below_drew1 | refine below_set ?_ GE163.out | refine below_set ?_ GE164.out) | exact HB.out)))); have n1_ := Aside0.mk (blk_below (g := gb163) (o := .cells #[.bool a0_0, .bool a0_1, .bool a0_2, .bool a0_3, .bool a0_4, .bool a0_5, .bool a0_6, .int .i64 a0_7, .bool a0_8, .bool a0_9, .int .i64 a0_10, .slice A0_11 l0_11.length c0_11] 38 (0, 0)) (by (with_reducible repeat (first | refine blk_drewN ?_ _ | refine blk_drew ?_ | refine blk_alloc ?_ _)); exact BK163.out) hb); have n2_ := Aside0.mk (blk_below (g := gb164) (o := .cells #[.bool a0_0, .bool a0_1, .bool a0_2, .bool a0_3] 27 (0, 0)) (by (with_reducible repeat (first | refine blk_drewN ?_ _ | refine blk_drew ?_ | refine blk_alloc ?_ _)); exact BK164.out) hb); have n3_ := Aside0.mk (below_step (by repeat (first | (with_reducible first | exact HB.out | apply below_alloc | apply pw_below_drewN | apply below_drew1 | refine below_set ?_ GE163.out | refine below_set ?_ GE164.out) | exact HB.out)) hb); clear BK163; clear BK164; clear HB; have HO189 := n0_; have BK163 := n1_; have BK164 := n2_; have HB := n3_; clear n0_ n1_ n2_ n3_; (try clear hb); (try clear hb2); (try clear hk); (try clear hi); (try clear ho0)))
                      go_ret
                      exact ⟨_, by first | rfl | (simp [errW_none, errW_some] <;> rfl) | (simp [*, errW_none, errW_some] <;> rfl), by (with_reducible repeat (first | apply Kd.R_alloc | apply Kd.R_drewN | apply Kd.R_drew)); exact HO189.out, by repeat (first | (with_reducible first | exact HB.out | apply below_alloc | apply pw_below_drewN | apply below_drew1 | refine below_set ?_ GE163.out | refine below_set ?_ GE164.out) | exact HB.out)⟩
                    · rw [if_neg c61] at H
                      have c61b0 : (a1 == 3) = false := beq_eq_false_iff_ne.mpr c61
                      have c61b1 : (a1 != 3) = true := bne_iff_ne.mpr c61
                      by_cases c66 : a1 = 4
                      · rw [if_pos c66] at H
                        have c66b0 : (a1 == 4) = true := beq_iff_eq.mpr c66
                        have c66b1 : (a1 != 4) = false := bne_eq_false_iff_eq.mpr c66
                        clear c66
                        obtain ⟨y190, hy190⟩ : ∃ y_ : List Bool, y_ = (([a0_8, a0_9] : List Bool)) := ⟨_, rfl⟩
                        replace H : ((sensor_bits.f kj19 y190).bind fun t193 => (some t193)) = some r := by first | (rw [hy190]; with_reducible exact H) | (have H2_ := (Option.bind_some _ _).symm.trans H; rw [hy190]; with_reducible exact H2_) | (have H2_ := (Option.bind_some _ _).symm.trans H; with_reducible exact H2_) | with_reducible exact H | (rw [hy190]; exact H) | exact H
                        have Ny190 := Aside0.mk hy190
                        clear hy190
                        replace H := Option.bind_eq_some_iff.mp H
                        obtain ⟨t193, A670, H⟩ := H
                        replace H : (some t193) = some r := H
                        have A67 := Aside0.mk A670
                        clear A670
                        obtain rfl := Option.some.inj H
                        have hnb68 := NB163_164.out
                        have hnc68 := NB164_163.out
                        have hcz69_0 : wc.cell? ⟨gb163, 0, none⟩ = some (.bool a0_0) := (blk_cell BK163.out 0).trans rfl
                        have hcz69_1 : wc.cell? ⟨gb163, 1, none⟩ = some (.bool a0_1) := (blk_cell BK163.out 1).trans rfl
                        have hcz69_2 : wc.cell? ⟨gb163, 2, none⟩ = some (.bool a0_2) := (blk_cell BK163.out 2).trans rfl
                        have hcz69_3 : wc.cell? ⟨gb163, 3, none⟩ = some (.bool a0_3) := (blk_cell BK163.out 3).trans rfl
                        have hcz69_4 : wc.cell? ⟨gb163, 4, none⟩ = some (.bool a0_4) := (blk_cell BK163.out 4).trans rfl
                        have hcz69_5 : wc.cell? ⟨gb163, 5, none⟩ = some (.bool a0_5) := (blk_cell BK163.out 5).trans rfl
                        have hcz69_6 : wc.cell? ⟨gb163, 6, none⟩ = some (.bool a0_6) := (blk_cell BK163.out 6).trans rfl
                        have hcz69_7 : wc.cell? ⟨gb163, 7, none⟩ = some (.int .i64 a0_7) := (blk_cell BK163.out 7).trans rfl
                        have hcz69_8 : wc.cell? ⟨gb163, 8, none⟩ = some (.bool a0_8) := (blk_cell BK163.out 8).trans rfl
                        have hcz69_9 : wc.cell? ⟨gb163, 9, none⟩ = some (.bool a0_9) := (blk_cell BK163.out 9).trans rfl
                        have hcz69_10 : wc.cell? ⟨gb163, 10, none⟩ = some (.int .i64 a0_10) := (blk_cell BK163.out 10).trans rfl
                        have hcz69_11 : wc.cell? ⟨gb163, 11, none⟩ = some (.slice A0_11 l0_11.length c0_11) := (blk_cell BK163.out 11).trans rfl
                        have hfz69_0 := blk_frozen BK163.out 0
                        have hfz69_1 := blk_frozen BK163.out 1
                        have hfz69_2 := blk_frozen BK163.out 2
                        have hfz69_3 := blk_frozen BK163.out 3
                        have hfz69_4 := blk_frozen BK163.out 4
                        have hfz69_5 := blk_frozen BK163.out 5
                        have hfz69_6 := blk_frozen BK163.out 6
                        have hfz69_7 := blk_frozen BK163.out 7
                        have hfz69_8 := blk_frozen BK163.out 8
                        have hfz69_9 := blk_frozen BK163.out 9
                        have hfz69_10 := blk_frozen BK163.out 10
                        have hfz69_11 := blk_frozen BK163.out 11
                        go_wp2_with (first | ((with_reducible refine gate_dst (N := 85) rfl ?_); (try (refine gate_guard (by rfl) ?_; dsimp only)); refine Kd.R_lit Kd.bool _ 4 ?hg (N := 85) ?hd (xs := ([a0_8, a0_9] : List Bool)) (inner := [.bool a0_8, .bool a0_9]) (ok := fun _ => True) (okp := fun _ => True) ?hr ?hp (fun _ hk => hk) trivial (Below.refl _ _) (Nat.le_refl _) (by simp) ?_; (case hd => rfl); (case hg => rfl); (case hr => first | (go_simp; done) | (go_simp; rfl)); (case hp => exact (Reps.one (show Kd.M Kd.bool _ _ _ a0_8 [.bool a0_8] from rfl) (Reps.one (show Kd.M Kd.bool _ _ _ a0_9 [.bool a0_9] from rfl) (Reps.none _ _)))); intro v191 w70 ho71 hb hg_ hnew_; clear hg_ hnew_; (first | rw [← Ny190.out] at ho71 | (simp only [Int.reduceToNat] at ho71; rw [← Ny190.out] at ho71)); have n0_ := Aside0.mk (Kd.R_lower ho71 (below_size (by repeat (first | (with_reducible first | exact HB.out | apply below_alloc | apply pw_below_drewN | apply below_drew1 | refine below_set ?_ GE163.out | refine below_set ?_ GE164.out) | exact HB.out)))); have n1_ := Aside0.mk (blk_below (g := gb163) (o := .cells #[.bool a0_0, .bool a0_1, .bool a0_2, .bool a0_3, .bool a0_4, .bool a0_5, .bool a0_6, .int .i64 a0_7, .bool a0_8, .bool a0_9, .int .i64 a0_10, .slice A0_11 l0_11.length c0_11] 38 (0, 0)) (by (with_reducible repeat (first | refine blk_drewN ?_ _ | refine blk_drew ?_ | refine blk_alloc ?_ _)); exact BK163.out) hb); have n2_ := Aside0.mk (blk_below (g := gb164) (o := .cells #[.bool a0_0, .bool a0_1, .bool a0_2, .bool a0_3] 27 (0, 0)) (by (with_reducible repeat (first | refine blk_drewN ?_ _ | refine blk_drew ?_ | refine blk_alloc ?_ _)); exact BK164.out) hb); have n3_ := Aside0.mk (below_step (by repeat (first | (with_reducible first | exact HB.out | apply below_alloc | apply pw_below_drewN | apply below_drew1 | refine below_set ?_ GE163.out | refine below_set ?_ GE164.out) | exact HB.out)) hb); clear BK163; clear BK164; clear HB; have HO192 := n0_; have BK163 := n1_; have BK164 := n2_; have HB := n3_; clear n0_ n1_ n2_ n3_; clear hb ho71; obtain ⟨Ao72, co72, eo72⟩ := Kd.R_slice HO192.out; subst eo72) | ((with_reducible refine gate_callee (f := 29) rfl ?_); refine goesL_ (some 86) rfl rfl Try.func29 (by kernel_rfl) rfl #[.slice Ao72 y190.length co72] rfl (by (try simp only [List.map_toArray, List.map_cons, List.map_nil]); first | done | rfl | (simp only [List.length_drop, List.length_take]; rfl)) ?_; (with_reducible refine (sensor_bits.calls kj19 _ _ y190 t193 _ ?side1 ?side2 A67.out).mono ?_); (case side1 => repeat (first | exact (Kd.R_reads' HO192.out).2.2 | (with_reducible refine Kd.C_alloc ?_ _) | (with_reducible refine Kd.C_drewN ?_ _) | (with_reducible refine Kd.C_drew ?_))); (case side2 => exact (Kd.R_reads' HO192.out).2.1); rintro e w73 ⟨v194, rfl, ho0, hb⟩; refine ⟨_, rfl, ?_⟩; have n0_ := Aside0.mk (Kd.R_below (by (with_reducible repeat (first | apply Kd.R_alloc | apply Kd.R_drewN | apply Kd.R_drew)); exact HO192.out) hb); have n1_ := Aside0.mk (Kd.R_lower ho0 (below_size (by repeat (first | (with_reducible first | exact HB.out | apply below_alloc | apply pw_below_drewN | apply below_drew1 | refine below_set ?_ GE163.out | refine below_set ?_ GE164.out) | exact HB.out)))); have n2_ := Aside0.mk (blk_below (g := gb163) (o := .cells #[.bool a0_0, .bool a0_1, .bool a0_2, .bool a0_3, .bool a0_4, .bool a0_5, .bool a0_6, .int .i64 a0_7, .bool a0_8, .bool a0_9, .int .i64 a0_10, .slice A0_11 l0_11.length c0_11] 38 (0, 0)) (by (with_reducible repeat (first | refine blk_drewN ?_ _ | refine blk_drew ?_ | refine blk_alloc ?_ _)); exact BK163.out) hb); have n3_ := Aside0.mk (blk_below (g := gb164) (o := .cells #[.bool a0_0, .bool a0_1, .bool a0_2, .bool a0_3] 27 (0, 0)) (by (with_reducible repeat (first | refine blk_drewN ?_ _ | refine blk_drew ?_ | refine blk_alloc ?_ _)); exact BK164.out) hb); have n4_ := Aside0.mk (below_step (by repeat (first | (with_reducible first | exact HB.out | apply below_alloc | apply pw_below_drewN | apply below_drew1 | refine below_set ?_ GE163.out | refine below_set ?_ GE164.out) | exact HB.out)) hb); clear HO192; clear BK163; clear BK164; clear HB; have HO192 := n0_; have HO195 := n1_; have BK163 := n2_; have BK164 := n3_; have HB := n4_; clear n0_ n1_ n2_ n3_ n4_; (try clear hb); (try clear hb2); (try clear hk); (try clear hi); (try clear ho0)))
                        go_ret
                        exact ⟨_, by first | rfl | (simp [errW_none, errW_some] <;> rfl) | (simp [*, errW_none, errW_some] <;> rfl), by (with_reducible repeat (first | apply Kd.R_alloc | apply Kd.R_drewN | apply Kd.R_drew)); exact HO195.out, by repeat (first | (with_reducible first | exact HB.out | apply below_alloc | apply pw_below_drewN | apply below_drew1 | refine below_set ?_ GE163.out | refine below_set ?_ GE164.out) | exact HB.out)⟩
                      · rw [if_neg c66] at H
                        have c66b0 : (a1 == 4) = false := beq_eq_false_iff_ne.mpr c66
                        have c66b1 : (a1 != 4) = true := bne_iff_ne.mpr c66
                        by_cases c74 : a1 = 5
                        · rw [if_pos c74] at H
                          have c74b0 : (a1 == 5) = true := beq_iff_eq.mpr c74
                          have c74b1 : (a1 != 5) = false := bne_eq_false_iff_eq.mpr c74
                          clear c74
                          replace H := Option.bind_eq_some_iff.mp H
                          obtain ⟨t196, A750, H⟩ := H
                          replace H : (some t196) = some r := H
                          have A75 := Aside0.mk A750
                          clear A750
                          obtain rfl := Option.some.inj H
                          have hnb76 := NB163_164.out
                          have hnc76 := NB164_163.out
                          have hcz77_0 : wc.cell? ⟨gb163, 0, none⟩ = some (.bool a0_0) := (blk_cell BK163.out 0).trans rfl
                          have hcz77_1 : wc.cell? ⟨gb163, 1, none⟩ = some (.bool a0_1) := (blk_cell BK163.out 1).trans rfl
                          have hcz77_2 : wc.cell? ⟨gb163, 2, none⟩ = some (.bool a0_2) := (blk_cell BK163.out 2).trans rfl
                          have hcz77_3 : wc.cell? ⟨gb163, 3, none⟩ = some (.bool a0_3) := (blk_cell BK163.out 3).trans rfl
                          have hcz77_4 : wc.cell? ⟨gb163, 4, none⟩ = some (.bool a0_4) := (blk_cell BK163.out 4).trans rfl
                          have hcz77_5 : wc.cell? ⟨gb163, 5, none⟩ = some (.bool a0_5) := (blk_cell BK163.out 5).trans rfl
                          have hcz77_6 : wc.cell? ⟨gb163, 6, none⟩ = some (.bool a0_6) := (blk_cell BK163.out 6).trans rfl
                          have hcz77_7 : wc.cell? ⟨gb163, 7, none⟩ = some (.int .i64 a0_7) := (blk_cell BK163.out 7).trans rfl
                          have hcz77_8 : wc.cell? ⟨gb163, 8, none⟩ = some (.bool a0_8) := (blk_cell BK163.out 8).trans rfl
                          have hcz77_9 : wc.cell? ⟨gb163, 9, none⟩ = some (.bool a0_9) := (blk_cell BK163.out 9).trans rfl
                          have hcz77_10 : wc.cell? ⟨gb163, 10, none⟩ = some (.int .i64 a0_10) := (blk_cell BK163.out 10).trans rfl
                          have hcz77_11 : wc.cell? ⟨gb163, 11, none⟩ = some (.slice A0_11 l0_11.length c0_11) := (blk_cell BK163.out 11).trans rfl
                          have hfz77_0 := blk_frozen BK163.out 0
                          have hfz77_1 := blk_frozen BK163.out 1
                          have hfz77_2 := blk_frozen BK163.out 2
                          have hfz77_3 := blk_frozen BK163.out 3
                          have hfz77_4 := blk_frozen BK163.out 4
                          have hfz77_5 := blk_frozen BK163.out 5
                          have hfz77_6 := blk_frozen BK163.out 6
                          have hfz77_7 := blk_frozen BK163.out 7
                          have hfz77_8 := blk_frozen BK163.out 8
                          have hfz77_9 := blk_frozen BK163.out 9
                          have hfz77_10 := blk_frozen BK163.out 10
                          have hfz77_11 := blk_frozen BK163.out 11
                          go_wp2_with (first | ((with_reducible refine gate_callee (f := 30) rfl ?_); refine goesL_ (some 92) rfl rfl Try.func30 (by kernel_rfl) rfl #[.int .i64 a0_10, .int .i64 256] rfl (by (try simp only [List.map_toArray, List.map_cons, List.map_nil]); first | done | rfl | (simp only [List.length_drop, List.length_take]; rfl)) ?_; (with_reducible refine (sensor_number.calls a0_10 256 t196 _ A75.out).mono ?_); rintro e w78 ⟨v197, rfl, ho0, hb⟩; refine ⟨_, rfl, ?_⟩; have n0_ := Aside0.mk (Kd.R_lower ho0 (below_size (by repeat (first | (with_reducible first | exact HB.out | apply below_alloc | apply pw_below_drewN | apply below_drew1 | refine below_set ?_ GE163.out | refine below_set ?_ GE164.out) | exact HB.out)))); have n1_ := Aside0.mk (blk_below (g := gb163) (o := .cells #[.bool a0_0, .bool a0_1, .bool a0_2, .bool a0_3, .bool a0_4, .bool a0_5, .bool a0_6, .int .i64 a0_7, .bool a0_8, .bool a0_9, .int .i64 a0_10, .slice A0_11 l0_11.length c0_11] 38 (0, 0)) (by (with_reducible repeat (first | refine blk_drewN ?_ _ | refine blk_drew ?_ | refine blk_alloc ?_ _)); exact BK163.out) hb); have n2_ := Aside0.mk (blk_below (g := gb164) (o := .cells #[.bool a0_0, .bool a0_1, .bool a0_2, .bool a0_3] 27 (0, 0)) (by (with_reducible repeat (first | refine blk_drewN ?_ _ | refine blk_drew ?_ | refine blk_alloc ?_ _)); exact BK164.out) hb); have n3_ := Aside0.mk (below_step (by repeat (first | (with_reducible first | exact HB.out | apply below_alloc | apply pw_below_drewN | apply below_drew1 | refine below_set ?_ GE163.out | refine below_set ?_ GE164.out) | exact HB.out)) hb); clear BK163; clear BK164; clear HB; have HO198 := n0_; have BK163 := n1_; have BK164 := n2_; have HB := n3_; clear n0_ n1_ n2_ n3_; (try clear hb); (try clear hb2); (try clear hk); (try clear hi); (try clear ho0)))
                          go_ret
                          exact ⟨_, by first | rfl | (simp [errW_none, errW_some] <;> rfl) | (simp [*, errW_none, errW_some] <;> rfl), by (with_reducible repeat (first | apply Kd.R_alloc | apply Kd.R_drewN | apply Kd.R_drew)); exact HO198.out, by repeat (first | (with_reducible first | exact HB.out | apply below_alloc | apply pw_below_drewN | apply below_drew1 | refine below_set ?_ GE163.out | refine below_set ?_ GE164.out) | exact HB.out)⟩
                        · rw [if_neg c74] at H
                          have c74b0 : (a1 == 5) = false := beq_eq_false_iff_ne.mpr c74
                          have c74b1 : (a1 != 5) = true := bne_iff_ne.mpr c74
                          obtain rfl := Option.some.inj H
                          go_wp2
                          go_ret
                          exact ⟨_, by first | rfl | (simp [errW_none, errW_some] <;> rfl) | (simp [*, errW_none, errW_some] <;> rfl), by first | exact Kd.R_nil _ _ _ _ _ | exact Kd.N_nil _ _ _ _ _ | exact Kd.V_nil _ _ _ _ _ | exact Kd.Q_nil _ _ _ _ _ | exact Kd.S_nil _ _ _ _ _, by repeat (first | (with_reducible first | exact HB.out | apply below_alloc | apply pw_below_drewN | apply below_drew1 | refine below_set ?_ GE163.out | refine below_set ?_ GE164.out) | exact HB.out)⟩

end Go.Proofs.Ythefjcpddiggkaa.PS
