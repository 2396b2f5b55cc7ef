-- Of this claim: written by a program of this session (wip/stubprint.py) over the kit's printing tool, and turned by hand where it says so.
import Derived.Test.YtfijlaahifeimaaDoorPSx0
import Derived.Test.YtfijlaahifeimaaDoorPSx8
import Derived.Test.YtfijlaahifeimaaDoorPSx9
import Derived.Test.YtfijlaahifeimaaDoorPSx10
namespace Go.Proofs.YtfijlaahifeimaaDoor.PS
open Go.RowKit Go.Proofs.YtfijlaahifeimaaDoorW.PrintWords Go.Proofs.YtfijlaahifeimaaDoorW.PrintLast Go.Proofs.YtfijlaahifeimaaDoorW.PrintMore
attribute [local go_sem] max2_int min2_int max_two min_two max_three min_three max_four min_four   -- for this text's walks alone
set_option linter.unusedVariables false
set_option linter.unusedSimpArgs false

/-! ### sensor_Print: function 22 -/
mutual
def sensor_Print.j0 : Nat → Int → Bool → Bool → Bool → Bool → Bool → Bool → Bool → Bool → Int → Bool → Bool → Int → List (S48) → Bool → Bool → Bool → Bool → Option (List Int)
  | 0, _, _, _, _, _, _, _, _, _, _, _, _, _, _, _, _, _, _ => none
  | k + 1, x1, x8, x251000, x251001, x251002, x251003, x251004, x251005, x251006, x251007, x251008, x251009, x251010, x251011, x252000, x252001, x252002, x252003 => if x8 = true then (if 0 ≤ (wrap64 (x1 - 8)) then (if (wrap64 (x1 - 8)) < (x251011.length : Int) then ((sensor_track.f k ((rd_T48 x251011 (wrap64 (x1 - 8))).f0) ((rd_T48 x251011 (wrap64 (x1 - 8))).f1) ((rd_T48 x251011 (wrap64 (x1 - 8))).f2) ((rd_T48 x251011 (wrap64 (x1 - 8))).f3) ((rd_T48 x251011 (wrap64 (x1 - 8))).f4)).bind fun t253 => (some t253)) else (none)) else (none)) else (if x1 = 0 then (if x252000 = true then (if x252001 = true then (sensor_Print.j1 k x1 true x251000 x251001 x251002 x251003 x251004 x251005 x251006 x251007 x251008 x251009 x251010 x251011 x252000 x252001 x252002 x252003) else (if x252002 = true then (sensor_Print.j1 k x1 x252003 x251000 x251001 x251002 x251003 x251004 x251005 x251006 x251007 x251008 x251009 x251010 x251011 x252000 x252001 x252002 x252003) else (sensor_Print.j1 k x1 false x251000 x251001 x251002 x251003 x251004 x251005 x251006 x251007 x251008 x251009 x251010 x251011 x252000 x252001 x252002 x252003))) else (if x252002 = true then (sensor_Print.j1 k x1 x252003 x251000 x251001 x251002 x251003 x251004 x251005 x251006 x251007 x251008 x251009 x251010 x251011 x252000 x252001 x252002 x252003) else (sensor_Print.j1 k x1 false x251000 x251001 x251002 x251003 x251004 x251005 x251006 x251007 x251008 x251009 x251010 x251011 x252000 x252001 x252002 x252003))) else (sensor_Print.j1 k x1 false x251000 x251001 x251002 x251003 x251004 x251005 x251006 x251007 x251008 x251009 x251010 x251011 x252000 x252001 x252002 x252003))
def sensor_Print.j1 : Nat → Int → Bool → Bool → Bool → Bool → Bool → Bool → Bool → Bool → Int → Bool → Bool → Int → List (S48) → Bool → Bool → Bool → Bool → Option (List Int)
  | 0, _, _, _, _, _, _, _, _, _, _, _, _, _, _, _, _, _, _ => none
  | k + 1, x1, x26, x251000, x251001, x251002, x251003, x251004, x251005, x251006, x251007, x251008, x251009, x251010, x251011, x252000, x252001, x252002, x252003 => if x26 = true then (some ([] : List Int)) else (if x1 = 0 then ((sensor_bits.f k (([x252000, x252001, x252002, x252003] : List Bool))).bind fun t259 => (some t259)) else (if x1 = 1 then ((sensor_bits.f k (([x251005] : List Bool))).bind fun t265 => (some t265)) else (if x1 = 2 then ((sensor_bits.f k (([x251006] : List Bool))).bind fun t271 => (some t271)) else (if x1 = 3 then ((sensor_number.f x251007 3).bind fun t274 => (some t274)) else (if x1 = 4 then ((sensor_bits.f k (([x251008, x251009] : List Bool))).bind fun t280 => (some t280)) else (if x1 = 5 then ((sensor_number.f x251010 256).bind fun t283 => (some t283)) else (some ([] : List Int))))))))
end
def sensor_Print.f (k : Nat) (a0_0 : Bool) (a0_1 : Bool) (a0_2 : Bool) (a0_3 : Bool) (a0_4 : Bool) (a0_5 : Bool) (a0_6 : Bool) (a0_7 : Int) (a0_8 : Bool) (a0_9 : Bool) (a0_10 : Int) (l0_11 : List (S48)) (a1 : Int) : Option (List Int) := if a1 ≥ 8 then (sensor_Print.j0 k a1 (decide ((wrap64 (a1 - 8)) < (l0_11.length : Int))) a0_0 a0_1 a0_2 a0_3 a0_4 a0_5 a0_6 a0_7 a0_8 a0_9 a0_10 l0_11 a0_0 a0_1 a0_2 a0_3) else (sensor_Print.j0 k a1 false a0_0 a0_1 a0_2 a0_3 a0_4 a0_5 a0_6 a0_7 a0_8 a0_9 a0_10 l0_11 a0_0 a0_1 a0_2 a0_3)
theorem sensor_Print.mono_l : ∀ k, (∀ y0 y1 y2 y3 y4 y5 y6 y7 y8 y9 y10 y11 y12 y13 y14 y15 y16 y17, LeO (sensor_Print.j0 k y0 y1 y2 y3 y4 y5 y6 y7 y8 y9 y10 y11 y12 y13 y14 y15 y16 y17) (sensor_Print.j0 (k + 1) y0 y1 y2 y3 y4 y5 y6 y7 y8 y9 y10 y11 y12 y13 y14 y15 y16 y17)) ∧ (∀ y0 y1 y2 y3 y4 y5 y6 y7 y8 y9 y10 y11 y12 y13 y14 y15 y16 y17, LeO (sensor_Print.j1 k y0 y1 y2 y3 y4 y5 y6 y7 y8 y9 y10 y11 y12 y13 y14 y15 y16 y17) (sensor_Print.j1 (k + 1) y0 y1 y2 y3 y4 y5 y6 y7 y8 y9 y10 y11 y12 y13 y14 y15 y16 y17))
  | 0 => ⟨fun _ _ _ _ _ _ _ _ _ _ _ _ _ _ _ _ _ _ r h => by simp [sensor_Print.j0] at h, fun _ _ _ _ _ _ _ _ _ _ _ _ _ _ _ _ _ _ r h => by simp [sensor_Print.j1] at h⟩
  | k + 1 => by
    obtain ⟨ih0, ih1⟩ := sensor_Print.mono_l k
    refine ⟨?_, ?_⟩
    · intro y0 y1 y2 y3 y4 y5 y6 y7 y8 y9 y10 y11 y12 y13 y14 y15 y16 y17
      unfold sensor_Print.j0
      repeat' first
      | (with_reducible exact ih0 _ _ _ _ _ _ _ _ _ _ _ _ _ _ _ _ _ _)
      | (with_reducible exact ih1 _ _ _ _ _ _ _ _ _ _ _ _ _ _ _ _ _ _)
      | (with_reducible exact sensor_bits.mono _ _)
      | (with_reducible exact sensor_track.mono _ _ _ _ _ _)
      | (with_reducible exact LeO.refl _)
      | (with_reducible exact LeO.none _)
      | (with_reducible refine LeO.ite ?_ ?_)
      | (with_reducible refine LeO.bind ?_ (fun _ => ?_))
      | exact ih0 _ _ _ _ _ _ _ _ _ _ _ _ _ _ _ _ _ _
      | exact ih1 _ _ _ _ _ _ _ _ _ _ _ _ _ _ _ _ _ _
      | exact sensor_bits.mono _ _
      | exact sensor_track.mono _ _ _ _ _ _
      | exact LeO.none _
      | refine LeO.ite ?_ ?_
      | refine LeO.bind ?_ (fun _ => ?_)
    · intro y0 y1 y2 y3 y4 y5 y6 y7 y8 y9 y10 y11 y12 y13 y14 y15 y16 y17
      unfold sensor_Print.j1
      repeat' first
      | (with_reducible exact ih0 _ _ _ _ _ _ _ _ _ _ _ _ _ _ _ _ _ _)
      | (with_reducible exact ih1 _ _ _ _ _ _ _ _ _ _ _ _ _ _ _ _ _ _)
      | (with_reducible exact sensor_bits.mono _ _)
      | (with_reducible exact sensor_track.mono _ _ _ _ _ _)
      | (with_reducible exact LeO.refl _)
      | (with_reducible exact LeO.none _)
      | (with_reducible refine LeO.ite ?_ ?_)
      | (with_reducible refine LeO.bind ?_ (fun _ => ?_))
      | exact ih0 _ _ _ _ _ _ _ _ _ _ _ _ _ _ _ _ _ _
      | exact ih1 _ _ _ _ _ _ _ _ _ _ _ _ _ _ _ _ _ _
      | exact sensor_bits.mono _ _
      | exact sensor_track.mono _ _ _ _ _ _
      | exact LeO.none _
      | refine LeO.ite ?_ ?_
      | refine LeO.bind ?_ (fun _ => ?_)
theorem sensor_Print.mono : ∀ a0 a1 a2 a3 a4 a5 a6 a7 a8 a9 a10 a11 a12 k, LeO (sensor_Print.f k a0 a1 a2 a3 a4 a5 a6 a7 a8 a9 a10 a11 a12) (sensor_Print.f (k + 1) a0 a1 a2 a3 a4 a5 a6 a7 a8 a9 a10 a11 a12) := by
  intro a0 a1 a2 a3 a4 a5 a6 a7 a8 a9 a10 a11 a12 k
  obtain ⟨ih0, ih1⟩ := sensor_Print.mono_l k
  unfold sensor_Print.f
  repeat' first
      | (with_reducible exact ih0 _ _ _ _ _ _ _ _ _ _ _ _ _ _ _ _ _ _)
      | (with_reducible exact ih1 _ _ _ _ _ _ _ _ _ _ _ _ _ _ _ _ _ _)
      | (with_reducible exact sensor_bits.mono _ _)
      | (with_reducible exact sensor_track.mono _ _ _ _ _ _)
      | (with_reducible exact LeO.refl _)
      | (with_reducible exact LeO.none _)
      | (with_reducible refine LeO.ite ?_ ?_)
      | (with_reducible refine LeO.bind ?_ (fun _ => ?_))
      | exact ih0 _ _ _ _ _ _ _ _ _ _ _ _ _ _ _ _ _ _
      | exact ih1 _ _ _ _ _ _ _ _ _ _ _ _ _ _ _ _ _ _
      | exact sensor_bits.mono _ _
      | exact sensor_track.mono _ _ _ _ _ _
      | exact LeO.none _
      | refine LeO.ite ?_ ?_
      | refine LeO.bind ?_ (fun _ => ?_)
set_option maxHeartbeats 8000000 in
set_option maxRecDepth 100000 in
theorem sensor_Print.calls (k : Nat) (a0_0 : Bool) (a0_1 : Bool) (a0_2 : Bool) (a0_3 : Bool) (a0_4 : Bool) (a0_5 : Bool) (a0_6 : Bool) (a0_7 : Int) (a0_8 : Bool) (a0_9 : Bool) (a0_10 : Int) (A0_11 : Option Addr) (c0_11 : Nat) (l0_11 : List (S48)) (a1 : Int) (r : List Int) (w : World) (hr0_11 : Kd.C k48 w A0_11 l0_11.length l0_11) (hc0_11 : l0_11.length ≤ c0_11) (h : sensor_Print.f k a0_0 a0_1 a0_2 a0_3 a0_4 a0_5 a0_6 a0_7 a0_8 a0_9 a0_10 l0_11 a1 = some r) :
    Calls Tryd.prog 22 #[.agg #[.bool a0_0, .bool a0_1, .bool a0_2, .bool a0_3, .bool a0_4, .bool a0_5, .bool a0_6, .int .i64 a0_7, .bool a0_8, .bool a0_9, .int .i64 a0_10, .slice A0_11 l0_11.length c0_11], .int .i64 a1] w fun e w' => ∃ v0_ : Value, e = .returned (v0_) ∧ Kd.R (Kd.int .u8) 5 w' w.heap.size (fun _ => True) v0_ r ∧ Below w.heap.size w w' := by
  have hu36 := Tryd.underlying36
  have hu33 := Tryd.underlying33
  have hu48 := Tryd.underlying48
  have HR0_11 := Aside0.mk hr0_11
  have HC0_11 := Aside0.mk hc0_11
  clear hr0_11 hc0_11
  have HB := Aside0.mk (Below.refl w.heap.size w)
  have H : (if a1 ≥ 8 then (sensor_Print.j0 k a1 (decide ((wrap64 (a1 - 8)) < (l0_11.length : Int))) a0_0 a0_1 a0_2 a0_3 a0_4 a0_5 a0_6 a0_7 a0_8 a0_9 a0_10 l0_11 a0_0 a0_1 a0_2 a0_3) else (sensor_Print.j0 k a1 false a0_0 a0_1 a0_2 a0_3 a0_4 a0_5 a0_6 a0_7 a0_8 a0_9 a0_10 l0_11 a0_0 a0_1 a0_2 a0_3)) = some r := h
  clear h
  have HC3 := Aside0.mk H
  clear H
  go_enter Tryd.func22, Tryd.ntmps22
  go_upto_region 2 with (first | ((with_reducible refine gate_dst (N := 2) rfl ?_); (try (refine gate_guard (by rfl) ?_; dsimp only)); refine box_event ?hg (N := 2) ?hd (cs := #[.bool a0_0, .bool a0_1, .bool a0_2, .bool a0_3, .bool a0_4, .bool a0_5, .bool a0_6, .int .i64 a0_7, .bool a0_8, .bool a0_9, .int .i64 a0_10, .slice A0_11 l0_11.length c0_11]) (t := 36) ?hr ?_; (case hd => rfl); (case hg => rfl); (case hr => first | (go_simp; done) | (go_simp; rfl)); intro gb250 hg w4 hbox hb; have n0_ := Aside0.mk (below_step (by repeat (first | (with_reducible first | exact HB.out | apply below_alloc | apply pw_below_drewN | apply below_drew1) | exact HB.out)) hb); have n1_ := Aside0.mk (hbox); have n2_ := Aside0.mk ((by rw [hg]; exact (below_size (by repeat (first | (with_reducible first | exact HB.out | apply below_alloc | apply pw_below_drewN | apply below_drew1) | exact HB.out))) : w.heap.size ≤ gb250)); have n3_ := Aside0.mk ((by rw [hg]; exact (below_size (by repeat (first | (with_reducible first | exact HB.out | apply below_alloc | apply pw_below_drewN | apply below_drew1) | exact HB.out))) : w.heap.size ≤ gb250)); clear HB; have HB := n0_; have BK250 := n1_; have GW250 := n2_; have GE250 := n3_; clear n0_ n1_ n2_ n3_; clear hb hbox hg; have hcz5_0 : w4.cell? ⟨gb250, 0, none⟩ = some (.bool a0_0) := (blk_cell BK250.out 0).trans rfl; have hcz5_1 : w4.cell? ⟨gb250, 1, none⟩ = some (.bool a0_1) := (blk_cell BK250.out 1).trans rfl; have hcz5_2 : w4.cell? ⟨gb250, 2, none⟩ = some (.bool a0_2) := (blk_cell BK250.out 2).trans rfl; have hcz5_3 : w4.cell? ⟨gb250, 3, none⟩ = some (.bool a0_3) := (blk_cell BK250.out 3).trans rfl; have hcz5_4 : w4.cell? ⟨gb250, 4, none⟩ = some (.bool a0_4) := (blk_cell BK250.out 4).trans rfl; have hcz5_5 : w4.cell? ⟨gb250, 5, none⟩ = some (.bool a0_5) := (blk_cell BK250.out 5).trans rfl; have hcz5_6 : w4.cell? ⟨gb250, 6, none⟩ = some (.bool a0_6) := (blk_cell BK250.out 6).trans rfl; have hcz5_7 : w4.cell? ⟨gb250, 7, none⟩ = some (.int .i64 a0_7) := (blk_cell BK250.out 7).trans rfl; have hcz5_8 : w4.cell? ⟨gb250, 8, none⟩ = some (.bool a0_8) := (blk_cell BK250.out 8).trans rfl; have hcz5_9 : w4.cell? ⟨gb250, 9, none⟩ = some (.bool a0_9) := (blk_cell BK250.out 9).trans rfl; have hcz5_10 : w4.cell? ⟨gb250, 10, none⟩ = some (.int .i64 a0_10) := (blk_cell BK250.out 10).trans rfl; have hcz5_11 : w4.cell? ⟨gb250, 11, none⟩ = some (.slice A0_11 l0_11.length c0_11) := (blk_cell BK250.out 11).trans rfl; have hfz5_0 := blk_frozen BK250.out 0; have hfz5_1 := blk_frozen BK250.out 1; have hfz5_2 := blk_frozen BK250.out 2; have hfz5_3 := blk_frozen BK250.out 3; have hfz5_4 := blk_frozen BK250.out 4; have hfz5_5 := blk_frozen BK250.out 5; have hfz5_6 := blk_frozen BK250.out 6; have hfz5_7 := blk_frozen BK250.out 7; have hfz5_8 := blk_frozen BK250.out 8; have hfz5_9 := blk_frozen BK250.out 9; have hfz5_10 := blk_frozen BK250.out 10; have hfz5_11 := blk_frozen BK250.out 11) | ((with_reducible refine gate_dst (N := 5) rfl ?_); (try (refine gate_guard (by rfl) ?_; dsimp only)); refine box_event ?hg (N := 5) ?hd (cs := #[.bool false, .bool false, .bool false, .bool false]) (t := 33) ?hr ?_; (case hd => rfl); (case hg => rfl); (case hr => first | (go_simp; done) | (go_simp; rfl)); intro gb251 hg w6 hbox hb; have n0_ := Aside0.mk (blk_below (g := gb250) (o := .cells #[.bool a0_0, .bool a0_1, .bool a0_2, .bool a0_3, .bool a0_4, .bool a0_5, .bool a0_6, .int .i64 a0_7, .bool a0_8, .bool a0_9, .int .i64 a0_10, .slice A0_11 l0_11.length c0_11] 36 (0, 0)) (by (with_reducible repeat (first | refine blk_drewN ?_ _ | refine blk_drew ?_ | refine blk_alloc ?_ _)); exact BK250.out) hb); have n1_ := Aside0.mk (below_step (by repeat (first | (with_reducible first | exact HB.out | apply below_alloc | apply pw_below_drewN | apply below_drew1 | refine below_set ?_ GE250.out) | exact HB.out)) hb); have n2_ := Aside0.mk (hbox); have n3_ := Aside0.mk ((by rw [hg]; exact (below_size (by repeat (first | (with_reducible first | exact HB.out | apply below_alloc | apply pw_below_drewN | apply below_drew1 | refine below_set ?_ GE250.out) | exact HB.out))) : w.heap.size ≤ gb251)); have n4_ := Aside0.mk ((by rw [hg]; exact (below_size (by repeat (first | (with_reducible first | exact HB.out | apply below_alloc | apply pw_below_drewN | apply below_drew1 | refine below_set ?_ GE250.out) | exact HB.out))) : w.heap.size ≤ gb251)); have n5_ := Aside0.mk ((by rw [hg]; exact Nat.ne_of_lt (blk_lt (g := gb250) (o := .cells #[.bool a0_0, .bool a0_1, .bool a0_2, .bool a0_3, .bool a0_4, .bool a0_5, .bool a0_6, .int .i64 a0_7, .bool a0_8, .bool a0_9, .int .i64 a0_10, .slice A0_11 l0_11.length c0_11] 36 (0, 0)) (by (with_reducible repeat (first | refine blk_drewN ?_ _ | refine blk_drew ?_ | refine blk_alloc ?_ _)); exact BK250.out)) : gb250 ≠ gb251)); have n6_ := Aside0.mk ((by rw [hg]; exact Nat.ne_of_gt (blk_lt (g := gb250) (o := .cells #[.bool a0_0, .bool a0_1, .bool a0_2, .bool a0_3, .bool a0_4, .bool a0_5, .bool a0_6, .int .i64 a0_7, .bool a0_8, .bool a0_9, .int .i64 a0_10, .slice A0_11 l0_11.length c0_11] 36 (0, 0)) (by (with_reducible repeat (first | refine blk_drewN ?_ _ | refine blk_drew ?_ | refine blk_alloc ?_ _)); exact BK250.out)) : gb251 ≠ gb250)); clear BK250; clear HB; have BK250 := n0_; have HB := n1_; have BK251 := n2_; have GW251 := n3_; have GE251 := n4_; have NB250_251 := n5_; have NB251_250 := n6_; clear n0_ n1_ n2_ n3_ n4_ n5_ n6_; clear hb hbox hg; have hnb7 := NB251_250.out; have hnc7 := NB250_251.out; have hcz8_0 : w6.cell? ⟨gb251, 0, none⟩ = some (.bool false) := (blk_cell BK251.out 0).trans rfl; have hcz8_1 : w6.cell? ⟨gb251, 1, none⟩ = some (.bool false) := (blk_cell BK251.out 1).trans rfl; have hcz8_2 : w6.cell? ⟨gb251, 2, none⟩ = some (.bool false) := (blk_cell BK251.out 2).trans rfl; have hcz8_3 : w6.cell? ⟨gb251, 3, none⟩ = some (.bool false) := (blk_cell BK251.out 3).trans rfl; have hfz8_0 := blk_frozen BK251.out 0; have hfz8_1 := blk_frozen BK251.out 1; have hfz8_2 := blk_frozen BK251.out 2; have hfz8_3 := blk_frozen BK251.out 3))
  (try simp only [Act.put, List.setIfInBounds_toArray, List.set_cons_zero, List.set_cons_succ])
  go_cut [8] (fun v8 wc => ∃ (kq : Nat) (x8_2 : Bool), v8 = .bool x8_2 ∧ Aside0 (sensor_Print.j0 kq a1 x8_2 a0_0 a0_1 a0_2 a0_3 a0_4 a0_5 a0_6 a0_7 a0_8 a0_9 a0_10 l0_11 a0_0 a0_1 a0_2 a0_3 = some r) ∧ Aside0 (kq ≤ k) ∧ Aside0 (wc.heap[gb250]? = some (.cells #[.bool a0_0, .bool a0_1, .bool a0_2, .bool a0_3, .bool a0_4, .bool a0_5, .bool a0_6, .int .i64 a0_7, .bool a0_8, .bool a0_9, .int .i64 a0_10, (.slice A0_11 l0_11.length c0_11)] 36 (0, 0))) ∧ Aside0 (wc.heap[gb251]? = some (.cells #[.bool a0_0, .bool a0_1, .bool a0_2, .bool a0_3] 33 (0, 0))) ∧ Aside0 (Below w.heap.size w wc))
  case first =>
    have H := HC3.out
    clear HC3
    by_cases c9 : a1 ≥ 8
    · rw [if_pos c9] at H
      have c9b0 : decide (8 ≤ a1) = true := decide_eq_true c9
      clear c9
      (first | rw [c9b0] | (simp only [i64_w, i32_w]; rw [c9b0]) | skip)
      have H' := Aside0.mk H
      clear H
      have hnb10 := NB250_251.out
      have hnc10 := NB251_250.out
      have hcz11_0 : w6.cell? ⟨gb250, 0, none⟩ = some (.bool a0_0) := (blk_cell BK250.out 0).trans rfl
      have hcz11_1 : w6.cell? ⟨gb250, 1, none⟩ = some (.bool a0_1) := (blk_cell BK250.out 1).trans rfl
      have hcz11_2 : w6.cell? ⟨gb250, 2, none⟩ = some (.bool a0_2) := (blk_cell BK250.out 2).trans rfl
      have hcz11_3 : w6.cell? ⟨gb250, 3, none⟩ = some (.bool a0_3) := (blk_cell BK250.out 3).trans rfl
      have hcz11_4 : w6.cell? ⟨gb250, 4, none⟩ = some (.bool a0_4) := (blk_cell BK250.out 4).trans rfl
      have hcz11_5 : w6.cell? ⟨gb250, 5, none⟩ = some (.bool a0_5) := (blk_cell BK250.out 5).trans rfl
      have hcz11_6 : w6.cell? ⟨gb250, 6, none⟩ = some (.bool a0_6) := (blk_cell BK250.out 6).trans rfl
      have hcz11_7 : w6.cell? ⟨gb250, 7, none⟩ = some (.int .i64 a0_7) := (blk_cell BK250.out 7).trans rfl
      have hcz11_8 : w6.cell? ⟨gb250, 8, none⟩ = some (.bool a0_8) := (blk_cell BK250.out 8).trans rfl
      have hcz11_9 : w6.cell? ⟨gb250, 9, none⟩ = some (.bool a0_9) := (blk_cell BK250.out 9).trans rfl
      have hcz11_10 : w6.cell? ⟨gb250, 10, none⟩ = some (.int .i64 a0_10) := (blk_cell BK250.out 10).trans rfl
      have hcz11_11 : w6.cell? ⟨gb250, 11, none⟩ = some (.slice A0_11 l0_11.length c0_11) := (blk_cell BK250.out 11).trans rfl
      have hfz11_0 := blk_frozen BK250.out 0
      have hfz11_1 := blk_frozen BK250.out 1
      have hfz11_2 := blk_frozen BK250.out 2
      have hfz11_3 := blk_frozen BK250.out 3
      have hfz11_4 := blk_frozen BK250.out 4
      have hfz11_5 := blk_frozen BK250.out 5
      have hfz11_6 := blk_frozen BK250.out 6
      have hfz11_7 := blk_frozen BK250.out 7
      have hfz11_8 := blk_frozen BK250.out 8
      have hfz11_9 := blk_frozen BK250.out 9
      have hfz11_10 := blk_frozen BK250.out 10
      have hfz11_11 := blk_frozen BK250.out 11
      go_wp2
      go_meet
      case rel => exact ⟨_, (decide ((wrap64 (a1 - 8)) < (l0_11.length : Int))), (by first | rfl | (simp; done) | (simp [*]; done)), H', ⟨by first | omega | exact Nat.le_refl _⟩, ⟨by (with_reducible repeat (first | refine blk_drewN ?_ _ | refine blk_drew ?_ | refine blk_alloc ?_ _)); refine blk_far ?_ NB250_251.out _; (with_reducible repeat (first | refine blk_drewN ?_ _ | refine blk_drew ?_ | refine blk_alloc ?_ _)); refine blk_far ?_ NB250_251.out _; (with_reducible repeat (first | refine blk_drewN ?_ _ | refine blk_drew ?_ | refine blk_alloc ?_ _)); refine blk_far ?_ NB250_251.out _; (with_reducible repeat (first | refine blk_drewN ?_ _ | refine blk_drew ?_ | refine blk_alloc ?_ _)); refine blk_far ?_ NB250_251.out _; (with_reducible repeat (first | refine blk_drewN ?_ _ | refine blk_drew ?_ | refine blk_alloc ?_ _)); exact BK250.out⟩, ⟨by (with_reducible repeat (first | refine blk_drewN ?_ _ | refine blk_drew ?_ | refine blk_alloc ?_ _)); refine blk_put (cs := #[.bool a0_0, .bool a0_1, .bool a0_2, .bool false]) ?_ 3 _ rfl; (with_reducible repeat (first | refine blk_drewN ?_ _ | refine blk_drew ?_ | refine blk_alloc ?_ _)); refine blk_put (cs := #[.bool a0_0, .bool a0_1, .bool false, .bool false]) ?_ 2 _ rfl; (with_reducible repeat (first | refine blk_drewN ?_ _ | refine blk_drew ?_ | refine blk_alloc ?_ _)); refine blk_put (cs := #[.bool a0_0, .bool false, .bool false, .bool false]) ?_ 1 _ rfl; (with_reducible repeat (first | refine blk_drewN ?_ _ | refine blk_drew ?_ | refine blk_alloc ?_ _)); refine blk_put (cs := #[.bool false, .bool false, .bool false, .bool false]) ?_ 0 _ rfl; (with_reducible repeat (first | refine blk_drewN ?_ _ | refine blk_drew ?_ | refine blk_alloc ?_ _)); exact BK251.out⟩, ⟨by repeat (first | (with_reducible first | exact HB.out | apply below_alloc | apply pw_below_drewN | apply below_drew1 | refine below_set ?_ GE250.out | refine below_set ?_ GE251.out) | exact HB.out)⟩⟩
    · rw [if_neg c9] at H
      have c9b0 : decide (8 ≤ a1) = false := decide_eq_false c9
      clear c9
      (first | rw [c9b0] | (simp only [i64_w, i32_w]; rw [c9b0]) | skip)
      have H' := Aside0.mk H
      clear H
      go_wp2
      go_meet
      case rel => exact ⟨_, (false), (by first | rfl | (simp; done) | (simp [*]; done)), H', ⟨by first | omega | exact Nat.le_refl _⟩, ⟨by (with_reducible repeat (first | refine blk_drewN ?_ _ | refine blk_drew ?_ | refine blk_alloc ?_ _)); refine blk_far ?_ NB250_251.out _; (with_reducible repeat (first | refine blk_drewN ?_ _ | refine blk_drew ?_ | refine blk_alloc ?_ _)); refine blk_far ?_ NB250_251.out _; (with_reducible repeat (first | refine blk_drewN ?_ _ | refine blk_drew ?_ | refine blk_alloc ?_ _)); refine blk_far ?_ NB250_251.out _; (with_reducible repeat (first | refine blk_drewN ?_ _ | refine blk_drew ?_ | refine blk_alloc ?_ _)); refine blk_far ?_ NB250_251.out _; (with_reducible repeat (first | refine blk_drewN ?_ _ | refine blk_drew ?_ | refine blk_alloc ?_ _)); exact BK250.out⟩, ⟨by (with_reducible repeat (first | refine blk_drewN ?_ _ | refine blk_drew ?_ | refine blk_alloc ?_ _)); refine blk_put (cs := #[.bool a0_0, .bool a0_1, .bool a0_2, .bool false]) ?_ 3 _ rfl; (with_reducible repeat (first | refine blk_drewN ?_ _ | refine blk_drew ?_ | refine blk_alloc ?_ _)); refine blk_put (cs := #[.bool a0_0, .bool a0_1, .bool false, .bool false]) ?_ 2 _ rfl; (with_reducible repeat (first | refine blk_drewN ?_ _ | refine blk_drew ?_ | refine blk_alloc ?_ _)); refine blk_put (cs := #[.bool a0_0, .bool false, .bool false, .bool false]) ?_ 1 _ rfl; (with_reducible repeat (first | refine blk_drewN ?_ _ | refine blk_drew ?_ | refine blk_alloc ?_ _)); refine blk_put (cs := #[.bool false, .bool false, .bool false, .bool false]) ?_ 0 _ rfl; (with_reducible repeat (first | refine blk_drewN ?_ _ | refine blk_drew ?_ | refine blk_alloc ?_ _)); exact BK251.out⟩, ⟨by repeat (first | (with_reducible first | exact HB.out | apply below_alloc | apply pw_below_drewN | apply below_drew1 | refine below_set ?_ GE250.out | refine below_set ?_ GE251.out) | exact HB.out)⟩⟩
  case rest =>
    clear HC3
    try clear c1
    try clear c2
    try clear p2
    try clear p6
    try clear c7
    try clear c9
    try clear c9b0
    try clear c10
    try clear hcz11_0
    try clear hcz11_1
    try clear hcz11_10
    try clear hcz11_11
    try clear hcz11_2
    try clear hcz11_3
    try clear hcz11_4
    try clear hcz11_5
    try clear hcz11_6
    try clear hcz11_7
    try clear hcz11_8
    try clear hcz11_9
    try clear hcz5_0
    try clear hcz5_1
    try clear hcz5_10
    try clear hcz5_11
    try clear hcz5_2
    try clear hcz5_3
    try clear hcz5_4
    try clear hcz5_5
    try clear hcz5_6
    try clear hcz5_7
    try clear hcz5_8
    try clear hcz5_9
    try clear hcz8_0
    try clear hcz8_1
    try clear hcz8_2
    try clear hcz8_3
    try clear hfz11_0
    try clear hfz11_1
    try clear hfz11_10
    try clear hfz11_11
    try clear hfz11_2
    try clear hfz11_3
    try clear hfz11_4
    try clear hfz11_5
    try clear hfz11_6
    try clear hfz11_7
    try clear hfz11_8
    try clear hfz11_9
    try clear hfz5_0
    try clear hfz5_1
    try clear hfz5_10
    try clear hfz5_11
    try clear hfz5_2
    try clear hfz5_3
    try clear hfz5_4
    try clear hfz5_5
    try clear hfz5_6
    try clear hfz5_7
    try clear hfz5_8
    try clear hfz5_9
    try clear hfz8_0
    try clear hfz8_1
    try clear hfz8_2
    try clear hfz8_3
    obtain ⟨kq, x8_2, rfl, HA, HJ2, BK250, BK251, HB⟩ := hcut
    cases kq with
    | zero => exact absurd HA.out (by simp [sensor_Print.j0])
    | succ kj2 =>
      have H := HA.out
      clear HA
      simp only [sensor_Print.j0] at H
      by_cases c12 : x8_2 = true
      · subst c12
        have H1 : (if 0 ≤ (wrap64 (a1 - 8)) then (if (wrap64 (a1 - 8)) < (l0_11.length : Int) then ((sensor_track.f kj2 ((rd_T48 l0_11 (wrap64 (a1 - 8))).f0) ((rd_T48 l0_11 (wrap64 (a1 - 8))).f1) ((rd_T48 l0_11 (wrap64 (a1 - 8))).f2) ((rd_T48 l0_11 (wrap64 (a1 - 8))).f3) ((rd_T48 l0_11 (wrap64 (a1 - 8))).f4)).bind fun t253 => (some t253)) else (none)) else (none)) = some r := by rw [if_pos rfl] at H; exact H
        clear H
        have H := H1
        clear H1
        obtain ⟨ji13, hji13⟩ : ∃ j_ : Int, (wrap64 (a1 - 8)) = j_ := ⟨_, rfl⟩
        replace H : (if 0 ≤ (ji13) then (if (ji13) < (l0_11.length : Int) then ((sensor_track.f kj2 ((rd_T48 l0_11 (ji13)).f0) ((rd_T48 l0_11 (ji13)).f1) ((rd_T48 l0_11 (ji13)).f2) ((rd_T48 l0_11 (ji13)).f3) ((rd_T48 l0_11 (ji13)).f4)).bind fun t253 => (some t253)) else (none)) else (none)) = some r := by first | (rw [hji13] at H; exact H) | (simp only [hji13] at H ⊢; exact H)
        have hji13w : (IntKind.i64.wrap (a1 - 8)) = ji13 := (i64_w _).trans hji13
        by_cases c14 : 0 ≤ (ji13)
        · rw [if_pos c14] at H
          have c14b0 : decide (0 ≤ (ji13)) = true := decide_eq_true c14
          clear c14
          by_cases c15 : (ji13) < (l0_11.length : Int)
          · rw [if_pos c15] at H
            have c15b0 : decide ((ji13) < (l0_11.length : Int)) = true := decide_eq_true c15
            clear c15
            replace H := Option.bind_eq_some_iff.mp H
            obtain ⟨t253, A160, H⟩ := H
            replace H : (some t253) = some r := H
            have A16 := Aside0.mk A160
            clear A160
            obtain rfl := Option.some.inj H
            have hnb17 := NB250_251.out
            have hnc17 := NB251_250.out
            have hcz18_0 : wc.cell? ⟨gb250, 0, none⟩ = some (.bool a0_0) := (blk_cell BK250.out 0).trans rfl
            have hcz18_1 : wc.cell? ⟨gb250, 1, none⟩ = some (.bool a0_1) := (blk_cell BK250.out 1).trans rfl
            have hcz18_2 : wc.cell? ⟨gb250, 2, none⟩ = some (.bool a0_2) := (blk_cell BK250.out 2).trans rfl
            have hcz18_3 : wc.cell? ⟨gb250, 3, none⟩ = some (.bool a0_3) := (blk_cell BK250.out 3).trans rfl
            have hcz18_4 : wc.cell? ⟨gb250, 4, none⟩ = some (.bool a0_4) := (blk_cell BK250.out 4).trans rfl
            have hcz18_5 : wc.cell? ⟨gb250, 5, none⟩ = some (.bool a0_5) := (blk_cell BK250.out 5).trans rfl
            have hcz18_6 : wc.cell? ⟨gb250, 6, none⟩ = some (.bool a0_6) := (blk_cell BK250.out 6).trans rfl
            have hcz18_7 : wc.cell? ⟨gb250, 7, none⟩ = some (.int .i64 a0_7) := (blk_cell BK250.out 7).trans rfl
            have hcz18_8 : wc.cell? ⟨gb250, 8, none⟩ = some (.bool a0_8) := (blk_cell BK250.out 8).trans rfl
            have hcz18_9 : wc.cell? ⟨gb250, 9, none⟩ = some (.bool a0_9) := (blk_cell BK250.out 9).trans rfl
            have hcz18_10 : wc.cell? ⟨gb250, 10, none⟩ = some (.int .i64 a0_10) := (blk_cell BK250.out 10).trans rfl
            have hcz18_11 : wc.cell? ⟨gb250, 11, none⟩ = some (.slice A0_11 l0_11.length c0_11) := (blk_cell BK250.out 11).trans rfl
            have hfz18_0 := blk_frozen BK250.out 0
            have hfz18_1 := blk_frozen BK250.out 1
            have hfz18_2 := blk_frozen BK250.out 2
            have hfz18_3 := blk_frozen BK250.out 3
            have hfz18_4 := blk_frozen BK250.out 4
            have hfz18_5 := blk_frozen BK250.out 5
            have hfz18_6 := blk_frozen BK250.out 6
            have hfz18_7 := blk_frozen BK250.out 7
            have hfz18_8 := blk_frozen BK250.out 8
            have hfz18_9 := blk_frozen BK250.out 9
            have hfz18_10 := blk_frozen BK250.out 10
            have hfz18_11 := blk_frozen BK250.out 11
            have p252 : 0 ≤ ((ji13) : Int) := of_decide_eq_true (by first | (with_reducible assumption) | assumption)
            have q252 : (ji13) < (l0_11.length : Int) := of_decide_eq_true (by first | (with_reducible assumption) | assumption)
            obtain ⟨ad252, e252, hx252_0, hx252_1, hx252_2, hx252_3, hx252_4⟩ := at_T48 HR0_11.out (ji13) p252 q252
            cases e252
            replace hx252_0 := (HB.out.cell (World.block_lt_of_cell? w _ hx252_0)).trans hx252_0
            replace hx252_1 := (HB.out.cell (World.block_lt_of_cell? w _ hx252_1)).trans hx252_1
            replace hx252_2 := (HB.out.cell (World.block_lt_of_cell? w _ hx252_2)).trans hx252_2
            replace hx252_3 := (HB.out.cell (World.block_lt_of_cell? w _ hx252_3)).trans hx252_3
            replace hx252_4 := (HB.out.cell (World.block_lt_of_cell? w _ hx252_4)).trans hx252_4
            replace p252 := eq_true p252
            replace q252 := eq_true q252
            go_wp2_with (first | ((with_reducible refine gate_callee (f := 52) rfl ?_); refine goesL_ (some 25) rfl rfl Tryd.func52 (by kernel_rfl) rfl #[.agg #[.bool ((rd_T48 l0_11 (ji13)).f0), .int .i64 ((rd_T48 l0_11 (ji13)).f1), .int .i64 ((rd_T48 l0_11 (ji13)).f2), .int .i64 ((rd_T48 l0_11 (ji13)).f3), .int .i64 ((rd_T48 l0_11 (ji13)).f4)]] rfl (by (try simp only [List.map_toArray, List.map_cons, List.map_nil]); first | done | (simp only [hji13]; rfl) | rfl | (simp only [List.length_drop, List.length_take]; rfl)) ?_; (with_reducible refine (sensor_track.calls kj2 ((rd_T48 l0_11 (ji13)).f0) ((rd_T48 l0_11 (ji13)).f1) ((rd_T48 l0_11 (ji13)).f2) ((rd_T48 l0_11 (ji13)).f3) ((rd_T48 l0_11 (ji13)).f4) t253 _ A16.out).mono ?_); rintro e w19 ⟨v254, rfl, ho0, hb⟩; refine ⟨_, rfl, ?_⟩; have n0_ := Aside0.mk (Kd.R_lower ho0 (below_size (by repeat (first | (with_reducible first | exact HB.out | apply below_alloc | apply pw_below_drewN | apply below_drew1 | refine below_set ?_ GE250.out | refine below_set ?_ GE251.out) | exact HB.out)))); have n1_ := Aside0.mk (blk_below (g := gb250) (o := .cells #[.bool a0_0, .bool a0_1, .bool a0_2, .bool a0_3, .bool a0_4, .bool a0_5, .bool a0_6, .int .i64 a0_7, .bool a0_8, .bool a0_9, .int .i64 a0_10, .slice (some ad252) l0_11.length c0_11] 36 (0, 0)) (by (with_reducible repeat (first | refine blk_drewN ?_ _ | refine blk_drew ?_ | refine blk_alloc ?_ _)); exact BK250.out) hb); have n2_ := Aside0.mk (blk_below (g := gb251) (o := .cells #[.bool a0_0, .bool a0_1, .bool a0_2, .bool a0_3] 33 (0, 0)) (by (with_reducible repeat (first | refine blk_drewN ?_ _ | refine blk_drew ?_ | refine blk_alloc ?_ _)); exact BK251.out) hb); have n3_ := Aside0.mk (below_step (by repeat (first | (with_reducible first | exact HB.out | apply below_alloc | apply pw_below_drewN | apply below_drew1 | refine below_set ?_ GE250.out | refine below_set ?_ GE251.out) | exact HB.out)) hb); clear BK250; clear BK251; clear HB; have HO255 := n0_; have BK250 := n1_; have BK251 := n2_; have HB := n3_; clear n0_ n1_ n2_ n3_; (try clear hb); (try clear hb2); (try clear hk); (try clear hi); (try clear ho0)))
            go_ret
            exact ⟨_, by first | rfl | (simp [errW_none, errW_some] <;> rfl) | (simp only [← hji13]; first | rfl | (simp [errW_none, errW_some] <;> rfl)) | (simp [*, errW_none, errW_some] <;> rfl), by (with_reducible repeat (first | apply Kd.R_alloc | apply Kd.R_drewN | apply Kd.R_drew)); exact HO255.out, by repeat (first | (with_reducible first | exact HB.out | apply below_alloc | apply pw_below_drewN | apply below_drew1 | refine below_set ?_ GE250.out | refine below_set ?_ GE251.out) | exact HB.out)⟩
          · rw [if_neg c15] at H
            exact absurd H (by simp)
        · rw [if_neg c14] at H
          exact absurd H (by simp)
      · replace c12 := Bool.eq_false_iff.mpr c12
        subst c12
        have H1 : (if a1 = 0 then (if a0_0 = true then (if a0_1 = true then (sensor_Print.j1 kj2 a1 true a0_0 a0_1 a0_2 a0_3 a0_4 a0_5 a0_6 a0_7 a0_8 a0_9 a0_10 l0_11 a0_0 a0_1 a0_2 a0_3) else (if a0_2 = true then (sensor_Print.j1 kj2 a1 a0_3 a0_0 a0_1 a0_2 a0_3 a0_4 a0_5 a0_6 a0_7 a0_8 a0_9 a0_10 l0_11 a0_0 a0_1 a0_2 a0_3) else (sensor_Print.j1 kj2 a1 false a0_0 a0_1 a0_2 a0_3 a0_4 a0_5 a0_6 a0_7 a0_8 a0_9 a0_10 l0_11 a0_0 a0_1 a0_2 a0_3))) else (if a0_2 = true then (sensor_Print.j1 kj2 a1 a0_3 a0_0 a0_1 a0_2 a0_3 a0_4 a0_5 a0_6 a0_7 a0_8 a0_9 a0_10 l0_11 a0_0 a0_1 a0_2 a0_3) else (sensor_Print.j1 kj2 a1 false a0_0 a0_1 a0_2 a0_3 a0_4 a0_5 a0_6 a0_7 a0_8 a0_9 a0_10 l0_11 a0_0 a0_1 a0_2 a0_3))) else (sensor_Print.j1 kj2 a1 false a0_0 a0_1 a0_2 a0_3 a0_4 a0_5 a0_6 a0_7 a0_8 a0_9 a0_10 l0_11 a0_0 a0_1 a0_2 a0_3)) = some r := by rw [if_neg (show ¬ (false = true) by decide)] at H; exact H
        clear H
        have H := H1
        clear H1
        have HC20 := Aside0.mk H
        clear H
        go_upto_region 4 with (fail)
        go_cut [26] (fun v26 wc => ∃ (kq : Nat) (x26_19 : Bool), v26 = .bool x26_19 ∧ Aside0 (sensor_Print.j1 kq a1 x26_19 a0_0 a0_1 a0_2 a0_3 a0_4 a0_5 a0_6 a0_7 a0_8 a0_9 a0_10 l0_11 a0_0 a0_1 a0_2 a0_3 = some r) ∧ Aside0 (kq ≤ kj2) ∧ Aside0 (wc.heap[gb250]? = some (.cells #[.bool a0_0, .bool a0_1, .bool a0_2, .bool a0_3, .bool a0_4, .bool a0_5, .bool a0_6, .int .i64 a0_7, .bool a0_8, .bool a0_9, .int .i64 a0_10, (.slice A0_11 l0_11.length c0_11)] 36 (0, 0))) ∧ Aside0 (wc.heap[gb251]? = some (.cells #[.bool a0_0, .bool a0_1, .bool a0_2, .bool a0_3] 33 (0, 0))) ∧ Aside0 (Below w.heap.size w wc))
        case first =>
          have H := HC20.out
          clear HC20
          by_cases c21 : a1 = 0
          · rw [if_pos c21] at H
            have c21b0 : (a1 == 0) = true := beq_iff_eq.mpr c21
            have c21b1 : (a1 != 0) = false := bne_eq_false_iff_eq.mpr c21
            clear c21
            (first | rw [c21b0] | (simp only [i64_w, i32_w]; rw [c21b0]) | skip)
            by_cases c22 : a0_0 = true
            · subst c22
              have H1 : (if a0_1 = true then (sensor_Print.j1 kj2 a1 true true a0_1 a0_2 a0_3 a0_4 a0_5 a0_6 a0_7 a0_8 a0_9 a0_10 l0_11 true a0_1 a0_2 a0_3) else (if a0_2 = true then (sensor_Print.j1 kj2 a1 a0_3 true a0_1 a0_2 a0_3 a0_4 a0_5 a0_6 a0_7 a0_8 a0_9 a0_10 l0_11 true a0_1 a0_2 a0_3) else (sensor_Print.j1 kj2 a1 false true a0_1 a0_2 a0_3 a0_4 a0_5 a0_6 a0_7 a0_8 a0_9 a0_10 l0_11 true a0_1 a0_2 a0_3))) = some r := by rw [if_pos rfl] at H; exact H
              clear H
              have H := H1
              clear H1
              by_cases c23 : a0_1 = true
              · subst c23
                have H1 : (sensor_Print.j1 kj2 a1 true true true a0_2 a0_3 a0_4 a0_5 a0_6 a0_7 a0_8 a0_9 a0_10 l0_11 true true a0_2 a0_3) = some r := by rw [if_pos rfl] at H; exact H
                clear H
                have H := H1
                clear H1
                have H' := Aside0.mk H
                clear H
                have hnb24 := NB251_250.out
                have hnc24 := NB250_251.out
                have hcz25_0 : wc.cell? ⟨gb251, 0, none⟩ = some (.bool true) := (blk_cell BK251.out 0).trans rfl
                have hcz25_1 : wc.cell? ⟨gb251, 1, none⟩ = some (.bool true) := (blk_cell BK251.out 1).trans rfl
                have hcz25_2 : wc.cell? ⟨gb251, 2, none⟩ = some (.bool a0_2) := (blk_cell BK251.out 2).trans rfl
                have hcz25_3 : wc.cell? ⟨gb251, 3, none⟩ = some (.bool a0_3) := (blk_cell BK251.out 3).trans rfl
                have hfz25_0 := blk_frozen BK251.out 0
                have hfz25_1 := blk_frozen BK251.out 1
                have hfz25_2 := blk_frozen BK251.out 2
                have hfz25_3 := blk_frozen BK251.out 3
                go_wp2
                go_meet
                case rel => exact ⟨_, (true), (by first | rfl | (simp; done) | (simp [*]; done)), H', ⟨by have := HJ2.out; first | omega | exact Nat.le_refl _⟩, ⟨by (with_reducible repeat (first | refine blk_drewN ?_ _ | refine blk_drew ?_ | refine blk_alloc ?_ _)); exact BK250.out⟩, ⟨by (with_reducible repeat (first | refine blk_drewN ?_ _ | refine blk_drew ?_ | refine blk_alloc ?_ _)); exact BK251.out⟩, ⟨by repeat (first | (with_reducible first | exact HB.out | apply below_alloc | apply pw_below_drewN | apply below_drew1 | refine below_set ?_ GE250.out | refine below_set ?_ GE251.out) | exact HB.out)⟩⟩
              · replace c23 := Bool.eq_false_iff.mpr c23
                subst c23
                have H1 : (if a0_2 = true then (sensor_Print.j1 kj2 a1 a0_3 true false a0_2 a0_3 a0_4 a0_5 a0_6 a0_7 a0_8 a0_9 a0_10 l0_11 true false a0_2 a0_3) else (sensor_Print.j1 kj2 a1 false true false a0_2 a0_3 a0_4 a0_5 a0_6 a0_7 a0_8 a0_9 a0_10 l0_11 true false a0_2 a0_3)) = some r := by rw [if_neg (show ¬ (false = true) by decide)] at H; exact H
                clear H
                have H := H1
                clear H1
                by_cases c26 : a0_2 = true
                · subst c26
                  have H1 : (sensor_Print.j1 kj2 a1 a0_3 true false true a0_3 a0_4 a0_5 a0_6 a0_7 a0_8 a0_9 a0_10 l0_11 true false true a0_3) = some r := by rw [if_pos rfl] at H; exact H
                  clear H
                  have H := H1
                  clear H1
                  have H' := Aside0.mk H
                  clear H
                  have hnb27 := NB251_250.out
                  have hnc27 := NB250_251.out
                  have hcz28_0 : wc.cell? ⟨gb251, 0, none⟩ = some (.bool true) := (blk_cell BK251.out 0).trans rfl
                  have hcz28_1 : wc.cell? ⟨gb251, 1, none⟩ = some (.bool false) := (blk_cell BK251.out 1).trans rfl
                  have hcz28_2 : wc.cell? ⟨gb251, 2, none⟩ = some (.bool true) := (blk_cell BK251.out 2).trans rfl
                  have hcz28_3 : wc.cell? ⟨gb251, 3, none⟩ = some (.bool a0_3) := (blk_cell BK251.out 3).trans rfl
                  have hfz28_0 := blk_frozen BK251.out 0
                  have hfz28_1 := blk_frozen BK251.out 1
                  have hfz28_2 := blk_frozen BK251.out 2
                  have hfz28_3 := blk_frozen BK251.out 3
                  go_wp2
                  go_meet
                  case rel => exact ⟨_, (a0_3), (by first | rfl | (simp; done) | (simp [*]; done)), H', ⟨by have := HJ2.out; first | omega | exact Nat.le_refl _⟩, ⟨by (with_reducible repeat (first | refine blk_drewN ?_ _ | refine blk_drew ?_ | refine blk_alloc ?_ _)); exact BK250.out⟩, ⟨by (with_reducible repeat (first | refine blk_drewN ?_ _ | refine blk_drew ?_ | refine blk_alloc ?_ _)); exact BK251.out⟩, ⟨by repeat (first | (with_reducible first | exact HB.out | apply below_alloc | apply pw_below_drewN | apply below_drew1 | refine below_set ?_ GE250.out | refine below_set ?_ GE251.out) | exact HB.out)⟩⟩
                · replace c26 := Bool.eq_false_iff.mpr c26
                  subst c26
                  have H1 : (sensor_Print.j1 kj2 a1 false true false false a0_3 a0_4 a0_5 a0_6 a0_7 a0_8 a0_9 a0_10 l0_11 true false false a0_3) = some r := by rw [if_neg (show ¬ (false = true) by decide)] at H; exact H
                  clear H
                  have H := H1
                  clear H1
                  have H' := Aside0.mk H
                  clear H
                  have hnb29 := NB251_250.out
                  have hnc29 := NB250_251.out
                  have hcz30_0 : wc.cell? ⟨gb251, 0, none⟩ = some (.bool true) := (blk_cell BK251.out 0).trans rfl
                  have hcz30_1 : wc.cell? ⟨gb251, 1, none⟩ = some (.bool false) := (blk_cell BK251.out 1).trans rfl
                  have hcz30_2 : wc.cell? ⟨gb251, 2, none⟩ = some (.bool false) := (blk_cell BK251.out 2).trans rfl
                  have hcz30_3 : wc.cell? ⟨gb251, 3, none⟩ = some (.bool a0_3) := (blk_cell BK251.out 3).trans rfl
                  have hfz30_0 := blk_frozen BK251.out 0
                  have hfz30_1 := blk_frozen BK251.out 1
                  have hfz30_2 := blk_frozen BK251.out 2
                  have hfz30_3 := blk_frozen BK251.out 3
                  go_wp2
                  go_meet
                  case rel => exact ⟨_, (false), (by first | rfl | (simp; done) | (simp [*]; done)), H', ⟨by have := HJ2.out; first | omega | exact Nat.le_refl _⟩, ⟨by (with_reducible repeat (first | refine blk_drewN ?_ _ | refine blk_drew ?_ | refine blk_alloc ?_ _)); exact BK250.out⟩, ⟨by (with_reducible repeat (first | refine blk_drewN ?_ _ | refine blk_drew ?_ | refine blk_alloc ?_ _)); exact BK251.out⟩, ⟨by repeat (first | (with_reducible first | exact HB.out | apply below_alloc | apply pw_below_drewN | apply below_drew1 | refine below_set ?_ GE250.out | refine below_set ?_ GE251.out) | exact HB.out)⟩⟩
            · replace c22 := Bool.eq_false_iff.mpr c22
              subst c22
              have H1 : (if a0_2 = true then (sensor_Print.j1 kj2 a1 a0_3 false a0_1 a0_2 a0_3 a0_4 a0_5 a0_6 a0_7 a0_8 a0_9 a0_10 l0_11 false a0_1 a0_2 a0_3) else (sensor_Print.j1 kj2 a1 false false a0_1 a0_2 a0_3 a0_4 a0_5 a0_6 a0_7 a0_8 a0_9 a0_10 l0_11 false a0_1 a0_2 a0_3)) = some r := by rw [if_neg (show ¬ (false = true) by decide)] at H; exact H
              clear H
              have H := H1
              clear H1
              by_cases c31 : a0_2 = true
              · subst c31
                have H1 : (sensor_Print.j1 kj2 a1 a0_3 false a0_1 true a0_3 a0_4 a0_5 a0_6 a0_7 a0_8 a0_9 a0_10 l0_11 false a0_1 true a0_3) = some r := by rw [if_pos rfl] at H; exact H
                clear H
                have H := H1
                clear H1
                have H' := Aside0.mk H
                clear H
                have hnb32 := NB251_250.out
                have hnc32 := NB250_251.out
                have hcz33_0 : wc.cell? ⟨gb251, 0, none⟩ = some (.bool false) := (blk_cell BK251.out 0).trans rfl
                have hcz33_1 : wc.cell? ⟨gb251, 1, none⟩ = some (.bool a0_1) := (blk_cell BK251.out 1).trans rfl
                have hcz33_2 : wc.cell? ⟨gb251, 2, none⟩ = some (.bool true) := (blk_cell BK251.out 2).trans rfl
                have hcz33_3 : wc.cell? ⟨gb251, 3, none⟩ = some (.bool a0_3) := (blk_cell BK251.out 3).trans rfl
                have hfz33_0 := blk_frozen BK251.out 0
                have hfz33_1 := blk_frozen BK251.out 1
                have hfz33_2 := blk_frozen BK251.out 2
                have hfz33_3 := blk_frozen BK251.out 3
                go_wp2
                go_meet
                case rel => exact ⟨_, (a0_3), (by first | rfl | (simp; done) | (simp [*]; done)), H', ⟨by have := HJ2.out; first | omega | exact Nat.le_refl _⟩, ⟨by (with_reducible repeat (first | refine blk_drewN ?_ _ | refine blk_drew ?_ | refine blk_alloc ?_ _)); exact BK250.out⟩, ⟨by (with_reducible repeat (first | refine blk_drewN ?_ _ | refine blk_drew ?_ | refine blk_alloc ?_ _)); exact BK251.out⟩, ⟨by repeat (first | (with_reducible first | exact HB.out | apply below_alloc | apply pw_below_drewN | apply below_drew1 | refine below_set ?_ GE250.out | refine below_set ?_ GE251.out) | exact HB.out)⟩⟩
              · replace c31 := Bool.eq_false_iff.mpr c31
                subst c31
                have H1 : (sensor_Print.j1 kj2 a1 false false a0_1 false a0_3 a0_4 a0_5 a0_6 a0_7 a0_8 a0_9 a0_10 l0_11 false a0_1 false a0_3) = some r := by rw [if_neg (show ¬ (false = true) by decide)] at H; exact H
                clear H
                have H := H1
                clear H1
                have H' := Aside0.mk H
                clear H
                have hnb34 := NB251_250.out
                have hnc34 := NB250_251.out
                have hcz35_0 : wc.cell? ⟨gb251, 0, none⟩ = some (.bool false) := (blk_cell BK251.out 0).trans rfl
                have hcz35_1 : wc.cell? ⟨gb251, 1, none⟩ = some (.bool a0_1) := (blk_cell BK251.out 1).trans rfl
                have hcz35_2 : wc.cell? ⟨gb251, 2, none⟩ = some (.bool false) := (blk_cell BK251.out 2).trans rfl
                have hcz35_3 : wc.cell? ⟨gb251, 3, none⟩ = some (.bool a0_3) := (blk_cell BK251.out 3).trans rfl
                have hfz35_0 := blk_frozen BK251.out 0
                have hfz35_1 := blk_frozen BK251.out 1
                have hfz35_2 := blk_frozen BK251.out 2
                have hfz35_3 := blk_frozen BK251.out 3
                go_wp2
                go_meet
                case rel => exact ⟨_, (false), (by first | rfl | (simp; done) | (simp [*]; done)), H', ⟨by have := HJ2.out; first | omega | exact Nat.le_refl _⟩, ⟨by (with_reducible repeat (first | refine blk_drewN ?_ _ | refine blk_drew ?_ | refine blk_alloc ?_ _)); exact BK250.out⟩, ⟨by (with_reducible repeat (first | refine blk_drewN ?_ _ | refine blk_drew ?_ | refine blk_alloc ?_ _)); exact BK251.out⟩, ⟨by repeat (first | (with_reducible first | exact HB.out | apply below_alloc | apply pw_below_drewN | apply below_drew1 | refine below_set ?_ GE250.out | refine below_set ?_ GE251.out) | exact HB.out)⟩⟩
          · rw [if_neg c21] at H
            have c21b0 : (a1 == 0) = false := beq_eq_false_iff_ne.mpr c21
            have c21b1 : (a1 != 0) = true := bne_iff_ne.mpr c21
            (first | rw [c21b0] | (simp only [i64_w, i32_w]; rw [c21b0]) | skip)
            have H' := Aside0.mk H
            clear H
            go_wp2
            go_meet
            case rel => exact ⟨_, (false), (by first | rfl | (simp; done) | (simp [*]; done)), H', ⟨by have := HJ2.out; first | omega | exact Nat.le_refl _⟩, ⟨by (with_reducible repeat (first | refine blk_drewN ?_ _ | refine blk_drew ?_ | refine blk_alloc ?_ _)); exact BK250.out⟩, ⟨by (with_reducible repeat (first | refine blk_drewN ?_ _ | refine blk_drew ?_ | refine blk_alloc ?_ _)); exact BK251.out⟩, ⟨by repeat (first | (with_reducible first | exact HB.out | apply below_alloc | apply pw_below_drewN | apply below_drew1 | refine below_set ?_ GE250.out | refine below_set ?_ GE251.out) | exact HB.out)⟩⟩
        case rest =>
          clear HC20
          try clear c1
          try clear c2
          try clear p2
          try clear q2
          try clear hx2
          try clear c3
          try clear c5
          try clear p6
          try clear c7
          try clear c9
          try clear c9b0
          try clear c10
          try clear c12
          try clear c14
          try clear c14b0
          try clear c15
          try clear c15b0
          try clear c17
          try clear c21
          try clear c21b0
          try clear c21b1
          try clear c22
          try clear c23
          try clear c24
          try clear p25
          try clear q25
          try clear hx25
          try clear c26
          try clear c27
          try clear c29
          try clear c31
          try clear c32
          try clear c34
          try clear hcz11_0
          try clear hcz11_1
          try clear hcz11_10
          try clear hcz11_11
          try clear hcz11_2
          try clear hcz11_3
          try clear hcz11_4
          try clear hcz11_5
          try clear hcz11_6
          try clear hcz11_7
          try clear hcz11_8
          try clear hcz11_9
          try clear hcz18_0
          try clear hcz18_1
          try clear hcz18_10
          try clear hcz18_11
          try clear hcz18_2
          try clear hcz18_3
          try clear hcz18_4
          try clear hcz18_5
          try clear hcz18_6
          try clear hcz18_7
          try clear hcz18_8
          try clear hcz18_9
          try clear hcz25_0
          try clear hcz25_1
          try clear hcz25_2
          try clear hcz25_3
          try clear hcz28_0
          try clear hcz28_1
          try clear hcz28_2
          try clear hcz28_3
          try clear hcz30_0
          try clear hcz30_1
          try clear hcz30_2
          try clear hcz30_3
          try clear hcz33_0
          try clear hcz33_1
          try clear hcz33_2
          try clear hcz33_3
          try clear hcz35_0
          try clear hcz35_1
          try clear hcz35_2
          try clear hcz35_3
          try clear hcz5_0
          try clear hcz5_1
          try clear hcz5_10
          try clear hcz5_11
          try clear hcz5_2
          try clear hcz5_3
          try clear hcz5_4
          try clear hcz5_5
          try clear hcz5_6
          try clear hcz5_7
          try clear hcz5_8
          try clear hcz5_9
          try clear hcz8_0
          try clear hcz8_1
          try clear hcz8_2
          try clear hcz8_3
          try clear hfz11_0
          try clear hfz11_1
          try clear hfz11_10
          try clear hfz11_11
          try clear hfz11_2
          try clear hfz11_3
          try clear hfz11_4
          try clear hfz11_5
          try clear hfz11_6
          try clear hfz11_7
          try clear hfz11_8
          try clear hfz11_9
          try clear hfz18_0
          try clear hfz18_1
          try clear hfz18_10
          try clear hfz18_11
          try clear hfz18_2
          try clear hfz18_3
          try clear hfz18_4
          try clear hfz18_5
          try clear hfz18_6
          try clear hfz18_7
          try clear hfz18_8
          try clear hfz18_9
          try clear hfz25_0
          try clear hfz25_1
          try clear hfz25_2
          try clear hfz25_3
          try clear hfz28_0
          try clear hfz28_1
          try clear hfz28_2
          try clear hfz28_3
          try clear hfz30_0
          try clear hfz30_1
          try clear hfz30_2
          try clear hfz30_3
          try clear hfz33_0
          try clear hfz33_1
          try clear hfz33_2
          try clear hfz33_3
          try clear hfz35_0
          try clear hfz35_1
          try clear hfz35_2
          try clear hfz35_3
          try clear hfz5_0
          try clear hfz5_1
          try clear hfz5_10
          try clear hfz5_11
          try clear hfz5_2
          try clear hfz5_3
          try clear hfz5_4
          try clear hfz5_5
          try clear hfz5_6
          try clear hfz5_7
          try clear hfz5_8
          try clear hfz5_9
          try clear hfz8_0
          try clear hfz8_1
          try clear hfz8_2
          try clear hfz8_3
          try clear hx252_0
          try clear hx252_1
          try clear hx252_2
          try clear hx252_3
          try clear hx252_4
          try clear p2
          try clear p252
          try clear p6
          try clear q252
          obtain ⟨kq, x26_19, rfl, HA, HJ19, BK250, BK251, HB⟩ := hcut
          cases kq with
          | zero => exact absurd HA.out (by simp [sensor_Print.j1])
          | succ kj19 =>
            have H := HA.out
            clear HA
            simp only [sensor_Print.j1] at H
            by_cases c36 : x26_19 = true
            · subst c36
              have H1 : (some ([] : List Int)) = some r := by rw [if_pos rfl] at H; exact H
              clear H
              have H := H1
              clear H1
              obtain rfl := Option.some.inj H
              go_wp2
              go_ret
              exact ⟨_, by first | rfl | (simp [errW_none, errW_some] <;> rfl) | (simp [*, errW_none, errW_some] <;> rfl), by first | exact Kd.R_nil _ _ _ _ _ | exact Kd.N_nil _ _ _ _ _ | exact Kd.V_nil _ _ _ _ _ | exact Kd.Q_nil _ _ _ _ _ | exact Kd.S_nil _ _ _ _ _, by repeat (first | (with_reducible first | exact HB.out | apply below_alloc | apply pw_below_drewN | apply below_drew1 | refine below_set ?_ GE250.out | refine below_set ?_ GE251.out) | exact HB.out)⟩
            · replace c36 := Bool.eq_false_iff.mpr c36
              subst c36
              have H1 : (if a1 = 0 then ((sensor_bits.f kj19 (([a0_0, a0_1, a0_2, a0_3] : List Bool))).bind fun t259 => (some t259)) else (if a1 = 1 then ((sensor_bits.f kj19 (([a0_5] : List Bool))).bind fun t265 => (some t265)) else (if a1 = 2 then ((sensor_bits.f kj19 (([a0_6] : List Bool))).bind fun t271 => (some t271)) else (if a1 = 3 then ((sensor_number.f a0_7 3).bind fun t274 => (some t274)) else (if a1 = 4 then ((sensor_bits.f kj19 (([a0_8, a0_9] : List Bool))).bind fun t280 => (some t280)) else (if a1 = 5 then ((sensor_number.f a0_10 256).bind fun t283 => (some t283)) else (some ([] : List Int)))))))) = some r := by rw [if_neg (show ¬ (false = true) by decide)] at H; exact H
              clear H
              have H := H1
              clear H1
              by_cases c37 : a1 = 0
              · rw [if_pos c37] at H
                have c37b0 : (a1 == 0) = true := beq_iff_eq.mpr c37
                have c37b1 : (a1 != 0) = false := bne_eq_false_iff_eq.mpr c37
                clear c37
                obtain ⟨y256, hy256⟩ : ∃ y_ : List Bool, y_ = (([a0_0, a0_1, a0_2, a0_3] : List Bool)) := ⟨_, rfl⟩
                replace H : ((sensor_bits.f kj19 y256).bind fun t259 => (some t259)) = some r := by first | (rw [hy256]; with_reducible exact H) | (have H2_ := (Option.bind_some _ _).symm.trans H; rw [hy256]; with_reducible exact H2_) | (have H2_ := (Option.bind_some _ _).symm.trans H; with_reducible exact H2_) | with_reducible exact H | (rw [hy256]; exact H) | exact H
                have Ny256 := Aside0.mk hy256
                clear hy256
                replace H := Option.bind_eq_some_iff.mp H
                obtain ⟨t259, A380, H⟩ := H
                replace H : (some t259) = some r := H
                have A38 := Aside0.mk A380
                clear A380
                obtain rfl := Option.some.inj H
                have hnb39 := NB251_250.out
                have hnc39 := NB250_251.out
                have hcz40_0 : wc.cell? ⟨gb251, 0, none⟩ = some (.bool a0_0) := (blk_cell BK251.out 0).trans rfl
                have hcz40_1 : wc.cell? ⟨gb251, 1, none⟩ = some (.bool a0_1) := (blk_cell BK251.out 1).trans rfl
                have hcz40_2 : wc.cell? ⟨gb251, 2, none⟩ = some (.bool a0_2) := (blk_cell BK251.out 2).trans rfl
                have hcz40_3 : wc.cell? ⟨gb251, 3, none⟩ = some (.bool a0_3) := (blk_cell BK251.out 3).trans rfl
                have hfz40_0 := blk_frozen BK251.out 0
                have hfz40_1 := blk_frozen BK251.out 1
                have hfz40_2 := blk_frozen BK251.out 2
                have hfz40_3 := blk_frozen BK251.out 3
                go_wp2_with (first | ((with_reducible refine gate_dst (N := 56) rfl ?_); (try (refine gate_guard (by rfl) ?_; dsimp only)); refine Kd.R_lit Kd.bool _ 4 ?hg (N := 56) ?hd (xs := ([a0_0, a0_1, a0_2, a0_3] : List Bool)) (inner := [.bool a0_0, .bool a0_1, .bool a0_2, .bool a0_3]) (ok := fun _ => True) (okp := fun _ => True) ?hr ?hp (fun _ hk => hk) trivial (Below.refl _ _) (Nat.le_refl _) (by simp) ?_; (case hd => rfl); (case hg => rfl); (case hr => first | (go_simp; done) | (go_simp; rfl)); (case hp => exact (Reps.one (show Kd.M Kd.bool _ _ _ a0_0 [.bool a0_0] from rfl) (Reps.one (show Kd.M Kd.bool _ _ _ a0_1 [.bool a0_1] from rfl) (Reps.one (show Kd.M Kd.bool _ _ _ a0_2 [.bool a0_2] from rfl) (Reps.one (show Kd.M Kd.bool _ _ _ a0_3 [.bool a0_3] from rfl) (Reps.none _ _)))))); intro v257 w41 ho42 hb hg_ hnew_; clear hg_ hnew_; (first | rw [← Ny256.out] at ho42 | (simp only [Int.reduceToNat] at ho42; rw [← Ny256.out] at ho42)); have n0_ := Aside0.mk (Kd.R_lower ho42 (below_size (by repeat (first | (with_reducible first | exact HB.out | apply below_alloc | apply pw_below_drewN | apply below_drew1 | refine below_set ?_ GE250.out | refine below_set ?_ GE251.out) | exact HB.out)))); have n1_ := Aside0.mk (blk_below (g := gb250) (o := .cells #[.bool a0_0, .bool a0_1, .bool a0_2, .bool a0_3, .bool a0_4, .bool a0_5, .bool a0_6, .int .i64 a0_7, .bool a0_8, .bool a0_9, .int .i64 a0_10, .slice A0_11 l0_11.length c0_11] 36 (0, 0)) (by (with_reducible repeat (first | refine blk_drewN ?_ _ | refine blk_drew ?_ | refine blk_alloc ?_ _)); exact BK250.out) hb); have n2_ := Aside0.mk (blk_below (g := gb251) (o := .cells #[.bool a0_0, .bool a0_1, .bool a0_2, .bool a0_3] 33 (0, 0)) (by (with_reducible repeat (first | refine blk_drewN ?_ _ | refine blk_drew ?_ | refine blk_alloc ?_ _)); exact BK251.out) hb); have n3_ := Aside0.mk (below_step (by repeat (first | (with_reducible first | exact HB.out | apply below_alloc | apply pw_below_drewN | apply below_drew1 | refine below_set ?_ GE250.out | refine below_set ?_ GE251.out) | exact HB.out)) hb); clear BK250; clear BK251; clear HB; have HO258 := n0_; have BK250 := n1_; have BK251 := n2_; have HB := n3_; clear n0_ n1_ n2_ n3_; clear hb ho42; obtain ⟨Ao43, co43, eo43⟩ := Kd.R_slice HO258.out; subst eo43) | ((with_reducible refine gate_callee (f := 53) rfl ?_); refine goesL_ (some 57) rfl rfl Tryd.func53 (by kernel_rfl) rfl #[.slice Ao43 y256.length co43] rfl (by (try simp only [List.map_toArray, List.map_cons, List.map_nil]); first | done | rfl | (simp only [List.length_drop, List.length_take]; rfl)) ?_; (with_reducible refine (sensor_bits.calls kj19 _ _ y256 t259 _ ?side1 ?side2 A38.out).mono ?_); (case side1 => repeat (first | exact (Kd.R_reads' HO258.out).2.2 | (with_reducible refine Kd.C_alloc ?_ _) | (with_reducible refine Kd.C_drewN ?_ _) | (with_reducible refine Kd.C_drew ?_))); (case side2 => exact (Kd.R_reads' HO258.out).2.1); rintro e w44 ⟨v260, rfl, ho0, hb⟩; refine ⟨_, rfl, ?_⟩; have n0_ := Aside0.mk (Kd.R_below (by (with_reducible repeat (first | apply Kd.R_alloc | apply Kd.R_drewN | apply Kd.R_drew)); exact HO258.out) hb); have n1_ := Aside0.mk (Kd.R_lower ho0 (below_size (by repeat (first | (with_reducible first | exact HB.out | apply below_alloc | apply pw_below_drewN | apply below_drew1 | refine below_set ?_ GE250.out | refine below_set ?_ GE251.out) | exact HB.out)))); have n2_ := Aside0.mk (blk_below (g := gb250) (o := .cells #[.bool a0_0, .bool a0_1, .bool a0_2, .bool a0_3, .bool a0_4, .bool a0_5, .bool a0_6, .int .i64 a0_7, .bool a0_8, .bool a0_9, .int .i64 a0_10, .slice A0_11 l0_11.length c0_11] 36 (0, 0)) (by (with_reducible repeat (first | refine blk_drewN ?_ _ | refine blk_drew ?_ | refine blk_alloc ?_ _)); exact BK250.out) hb); have n3_ := Aside0.mk (blk_below (g := gb251) (o := .cells #[.bool a0_0, .bool a0_1, .bool a0_2, .bool a0_3] 33 (0, 0)) (by (with_reducible repeat (first | refine blk_drewN ?_ _ | refine blk_drew ?_ | refine blk_alloc ?_ _)); exact BK251.out) hb); have n4_ := Aside0.mk (below_step (by repeat (first | (with_reducible first | exact HB.out | apply below_alloc | apply pw_below_drewN | apply below_drew1 | refine below_set ?_ GE250.out | refine below_set ?_ GE251.out) | exact HB.out)) hb); clear HO258; clear BK250; clear BK251; clear HB; have HO258 := n0_; have HO261 := n1_; have BK250 := n2_; have BK251 := n3_; have HB := n4_; clear n0_ n1_ n2_ n3_ n4_; (try clear hb); (try clear hb2); (try clear hk); (try clear hi); (try clear ho0)))
                go_ret
                exact ⟨_, by first | rfl | (simp [errW_none, errW_some] <;> rfl) | (simp [*, errW_none, errW_some] <;> rfl), by (with_reducible repeat (first | apply Kd.R_alloc | apply Kd.R_drewN | apply Kd.R_drew)); exact HO261.out, by repeat (first | (with_reducible first | exact HB.out | apply below_alloc | apply pw_below_drewN | apply below_drew1 | refine below_set ?_ GE250.out | refine below_set ?_ GE251.out) | exact HB.out)⟩
              · rw [if_neg c37] at H
                have c37b0 : (a1 == 0) = false := beq_eq_false_iff_ne.mpr c37
                have c37b1 : (a1 != 0) = true := bne_iff_ne.mpr c37
                by_cases c45 : a1 = 1
                · rw [if_pos c45] at H
                  have c45b0 : (a1 == 1) = true := beq_iff_eq.mpr c45
                  have c45b1 : (a1 != 1) = false := bne_eq_false_iff_eq.mpr c45
                  clear c45
                  obtain ⟨y262, hy262⟩ : ∃ y_ : List Bool, y_ = (([a0_5] : List Bool)) := ⟨_, rfl⟩
                  replace H : ((sensor_bits.f kj19 y262).bind fun t265 => (some t265)) = some r := by first | (rw [hy262]; with_reducible exact H) | (have H2_ := (Option.bind_some _ _).symm.trans H; rw [hy262]; with_reducible exact H2_) | (have H2_ := (Option.bind_some _ _).symm.trans H; with_reducible exact H2_) | with_reducible exact H | (rw [hy262]; exact H) | exact H
                  have Ny262 := Aside0.mk hy262
                  clear hy262
                  replace H := Option.bind_eq_some_iff.mp H
                  obtain ⟨t265, A460, H⟩ := H
                  replace H : (some t265) = some r := H
                  have A46 := Aside0.mk A460
                  clear A460
                  obtain rfl := Option.some.inj H
                  have hnb47 := NB250_251.out
                  have hnc47 := NB251_250.out
                  have hcz48_0 : wc.cell? ⟨gb250, 0, none⟩ = some (.bool a0_0) := (blk_cell BK250.out 0).trans rfl
                  have hcz48_1 : wc.cell? ⟨gb250, 1, none⟩ = some (.bool a0_1) := (blk_cell BK250.out 1).trans rfl
                  have hcz48_2 : wc.cell? ⟨gb250, 2, none⟩ = some (.bool a0_2) := (blk_cell BK250.out 2).trans rfl
                  have hcz48_3 : wc.cell? ⟨gb250, 3, none⟩ = some (.bool a0_3) := (blk_cell BK250.out 3).trans rfl
                  have hcz48_4 : wc.cell? ⟨gb250, 4, none⟩ = some (.bool a0_4) := (blk_cell BK250.out 4).trans rfl
                  have hcz48_5 : wc.cell? ⟨gb250, 5, none⟩ = some (.bool a0_5) := (blk_cell BK250.out 5).trans rfl
                  have hcz48_6 : wc.cell? ⟨gb250, 6, none⟩ = some (.bool a0_6) := (blk_cell BK250.out 6).trans rfl
                  have hcz48_7 : wc.cell? ⟨gb250, 7, none⟩ = some (.int .i64 a0_7) := (blk_cell BK250.out 7).trans rfl
                  have hcz48_8 : wc.cell? ⟨gb250, 8, none⟩ = some (.bool a0_8) := (blk_cell BK250.out 8).trans rfl
                  have hcz48_9 : wc.cell? ⟨gb250, 9, none⟩ = some (.bool a0_9) := (blk_cell BK250.out 9).trans rfl
                  have hcz48_10 : wc.cell? ⟨gb250, 10, none⟩ = some (.int .i64 a0_10) := (blk_cell BK250.out 10).trans rfl
                  have hcz48_11 : wc.cell? ⟨gb250, 11, none⟩ = some (.slice A0_11 l0_11.length c0_11) := (blk_cell BK250.out 11).trans rfl
                  have hfz48_0 := blk_frozen BK250.out 0
                  have hfz48_1 := blk_frozen BK250.out 1
                  have hfz48_2 := blk_frozen BK250.out 2
                  have hfz48_3 := blk_frozen BK250.out 3
                  have hfz48_4 := blk_frozen BK250.out 4
                  have hfz48_5 := blk_frozen BK250.out 5
                  have hfz48_6 := blk_frozen BK250.out 6
                  have hfz48_7 := blk_frozen BK250.out 7
                  have hfz48_8 := blk_frozen BK250.out 8
                  have hfz48_9 := blk_frozen BK250.out 9
                  have hfz48_10 := blk_frozen BK250.out 10
                  have hfz48_11 := blk_frozen BK250.out 11
                  go_wp2_with (first | ((with_reducible refine gate_dst (N := 63) rfl ?_); (try (refine gate_guard (by rfl) ?_; dsimp only)); refine Kd.R_lit Kd.bool _ 4 ?hg (N := 63) ?hd (xs := ([a0_5] : List Bool)) (inner := [.bool a0_5]) (ok := fun _ => True) (okp := fun _ => True) ?hr ?hp (fun _ hk => hk) trivial (Below.refl _ _) (Nat.le_refl _) (by simp) ?_; (case hd => rfl); (case hg => rfl); (case hr => first | (go_simp; done) | (go_simp; rfl)); (case hp => exact (Reps.one (show Kd.M Kd.bool _ _ _ a0_5 [.bool a0_5] from rfl) (Reps.none _ _))); intro v263 w49 ho50 hb hg_ hnew_; clear hg_ hnew_; (first | rw [← Ny262.out] at ho50 | (simp only [Int.reduceToNat] at ho50; rw [← Ny262.out] at ho50)); have n0_ := Aside0.mk (Kd.R_lower ho50 (below_size (by repeat (first | (with_reducible first | exact HB.out | apply below_alloc | apply pw_below_drewN | apply below_drew1 | refine below_set ?_ GE250.out | refine below_set ?_ GE251.out) | exact HB.out)))); have n1_ := Aside0.mk (blk_below (g := gb250) (o := .cells #[.bool a0_0, .bool a0_1, .bool a0_2, .bool a0_3, .bool a0_4, .bool a0_5, .bool a0_6, .int .i64 a0_7, .bool a0_8, .bool a0_9, .int .i64 a0_10, .slice A0_11 l0_11.length c0_11] 36 (0, 0)) (by (with_reducible repeat (first | refine blk_drewN ?_ _ | refine blk_drew ?_ | refine blk_alloc ?_ _)); exact BK250.out) hb); have n2_ := Aside0.mk (blk_below (g := gb251) (o := .cells #[.bool a0_0, .bool a0_1, .bool a0_2, .bool a0_3] 33 (0, 0)) (by (with_reducible repeat (first | refine blk_drewN ?_ _ | refine blk_drew ?_ | refine blk_alloc ?_ _)); exact BK251.out) hb); have n3_ := Aside0.mk (below_step (by repeat (first | (with_reducible first | exact HB.out | apply below_alloc | apply pw_below_drewN | apply below_drew1 | refine below_set ?_ GE250.out | refine below_set ?_ GE251.out) | exact HB.out)) hb); clear BK250; clear BK251; clear HB; have HO264 := n0_; have BK250 := n1_; have BK251 := n2_; have HB := n3_; clear n0_ n1_ n2_ n3_; clear hb ho50; obtain ⟨Ao51, co51, eo51⟩ := Kd.R_slice HO264.out; subst eo51) | ((with_reducible refine gate_callee (f := 53) rfl ?_); refine goesL_ (some 64) rfl rfl Tryd.func53 (by kernel_rfl) rfl #[.slice Ao51 y262.length co51] rfl (by (try simp only [List.map_toArray, List.map_cons, List.map_nil]); first | done | rfl | (simp only [List.length_drop, List.length_take]; rfl)) ?_; (with_reducible refine (sensor_bits.calls kj19 _ _ y262 t265 _ ?side1 ?side2 A46.out).mono ?_); (case side1 => repeat (first | exact (Kd.R_reads' HO264.out).2.2 | (with_reducible refine Kd.C_alloc ?_ _) | (with_reducible refine Kd.C_drewN ?_ _) | (with_reducible refine Kd.C_drew ?_))); (case side2 => exact (Kd.R_reads' HO264.out).2.1); rintro e w52 ⟨v266, rfl, ho0, hb⟩; refine ⟨_, rfl, ?_⟩; have n0_ := Aside0.mk (Kd.R_below (by (with_reducible repeat (first | apply Kd.R_alloc | apply Kd.R_drewN | apply Kd.R_drew)); exact HO264.out) hb); have n1_ := Aside0.mk (Kd.R_lower ho0 (below_size (by repeat (first | (with_reducible first | exact HB.out | apply below_alloc | apply pw_below_drewN | apply below_drew1 | refine below_set ?_ GE250.out | refine below_set ?_ GE251.out) | exact HB.out)))); have n2_ := Aside0.mk (blk_below (g := gb250) (o := .cells #[.bool a0_0, .bool a0_1, .bool a0_2, .bool a0_3, .bool a0_4, .bool a0_5, .bool a0_6, .int .i64 a0_7, .bool a0_8, .bool a0_9, .int .i64 a0_10, .slice A0_11 l0_11.length c0_11] 36 (0, 0)) (by (with_reducible repeat (first | refine blk_drewN ?_ _ | refine blk_drew ?_ | refine blk_alloc ?_ _)); exact BK250.out) hb); have n3_ := Aside0.mk (blk_below (g := gb251) (o := .cells #[.bool a0_0, .bool a0_1, .bool a0_2, .bool a0_3] 33 (0, 0)) (by (with_reducible repeat (first | refine blk_drewN ?_ _ | refine blk_drew ?_ | refine blk_alloc ?_ _)); exact BK251.out) hb); have n4_ := Aside0.mk (below_step (by repeat (first | (with_reducible first | exact HB.out | apply below_alloc | apply pw_below_drewN | apply below_drew1 | refine below_set ?_ GE250.out | refine below_set ?_ GE251.out) | exact HB.out)) hb); clear HO264; clear BK250; clear BK251; clear HB; have HO264 := n0_; have HO267 := n1_; have BK250 := n2_; have BK251 := n3_; have HB := n4_; clear n0_ n1_ n2_ n3_ n4_; (try clear hb); (try clear hb2); (try clear hk); (try clear hi); (try clear ho0)))
                  go_ret
                  exact ⟨_, by first | rfl | (simp [errW_none, errW_some] <;> rfl) | (simp [*, errW_none, errW_some] <;> rfl), by (with_reducible repeat (first | apply Kd.R_alloc | apply Kd.R_drewN | apply Kd.R_drew)); exact HO267.out, by repeat (first | (with_reducible first | exact HB.out | apply below_alloc | apply pw_below_drewN | apply below_drew1 | refine below_set ?_ GE250.out | refine below_set ?_ GE251.out) | exact HB.out)⟩
                · rw [if_neg c45] at H
                  have c45b0 : (a1 == 1) = false := beq_eq_false_iff_ne.mpr c45
                  have c45b1 : (a1 != 1) = true := bne_iff_ne.mpr c45
                  by_cases c53 : a1 = 2
                  · rw [if_pos c53] at H
                    have c53b0 : (a1 == 2) = true := beq_iff_eq.mpr c53
                    have c53b1 : (a1 != 2) = false := bne_eq_false_iff_eq.mpr c53
                    clear c53
                    obtain ⟨y268, hy268⟩ : ∃ y_ : List Bool, y_ = (([a0_6] : List Bool)) := ⟨_, rfl⟩
                    replace H : ((sensor_bits.f kj19 y268).bind fun t271 => (some t271)) = some r := by first | (rw [hy268]; with_reducible exact H) | (have H2_ := (Option.bind_some _ _).symm.trans H; rw [hy268]; with_reducible exact H2_) | (have H2_ := (Option.bind_some _ _).symm.trans H; with_reducible exact H2_) | with_reducible exact H | (rw [hy268]; exact H) | exact H
                    have Ny268 := Aside0.mk hy268
                    clear hy268
                    replace H := Option.bind_eq_some_iff.mp H
                    obtain ⟨t271, A540, H⟩ := H
                    replace H : (some t271) = some r := H
                    have A54 := Aside0.mk A540
                    clear A540
                    obtain rfl := Option.some.inj H
                    have hnb55 := NB250_251.out
                    have hnc55 := NB251_250.out
                    have hcz56_0 : wc.cell? ⟨gb250, 0, none⟩ = some (.bool a0_0) := (blk_cell BK250.out 0).trans rfl
                    have hcz56_1 : wc.cell? ⟨gb250, 1, none⟩ = some (.bool a0_1) := (blk_cell BK250.out 1).trans rfl
                    have hcz56_2 : wc.cell? ⟨gb250, 2, none⟩ = some (.bool a0_2) := (blk_cell BK250.out 2).trans rfl
                    have hcz56_3 : wc.cell? ⟨gb250, 3, none⟩ = some (.bool a0_3) := (blk_cell BK250.out 3).trans rfl
                    have hcz56_4 : wc.cell? ⟨gb250, 4, none⟩ = some (.bool a0_4) := (blk_cell BK250.out 4).trans rfl
                    have hcz56_5 : wc.cell? ⟨gb250, 5, none⟩ = some (.bool a0_5) := (blk_cell BK250.out 5).trans rfl
                    have hcz56_6 : wc.cell? ⟨gb250, 6, none⟩ = some (.bool a0_6) := (blk_cell BK250.out 6).trans rfl
                    have hcz56_7 : wc.cell? ⟨gb250, 7, none⟩ = some (.int .i64 a0_7) := (blk_cell BK250.out 7).trans rfl
                    have hcz56_8 : wc.cell? ⟨gb250, 8, none⟩ = some (.bool a0_8) := (blk_cell BK250.out 8).trans rfl
                    have hcz56_9 : wc.cell? ⟨gb250, 9, none⟩ = some (.bool a0_9) := (blk_cell BK250.out 9).trans rfl
                    have hcz56_10 : wc.cell? ⟨gb250, 10, none⟩ = some (.int .i64 a0_10) := (blk_cell BK250.out 10).trans rfl
                    have hcz56_11 : wc.cell? ⟨gb250, 11, none⟩ = some (.slice A0_11 l0_11.length c0_11) := (blk_cell BK250.out 11).trans rfl
                    have hfz56_0 := blk_frozen BK250.out 0
                    have hfz56_1 := blk_frozen BK250.out 1
                    have hfz56_2 := blk_frozen BK250.out 2
                    have hfz56_3 := blk_frozen BK250.out 3
                    have hfz56_4 := blk_frozen BK250.out 4
                    have hfz56_5 := blk_frozen BK250.out 5
                    have hfz56_6 := blk_frozen BK250.out 6
                    have hfz56_7 := blk_frozen BK250.out 7
                    have hfz56_8 := blk_frozen BK250.out 8
                    have hfz56_9 := blk_frozen BK250.out 9
                    have hfz56_10 := blk_frozen BK250.out 10
                    have hfz56_11 := blk_frozen BK250.out 11
                    go_wp2_with (first | ((with_reducible refine gate_dst (N := 70) rfl ?_); (try (refine gate_guard (by rfl) ?_; dsimp only)); refine Kd.R_lit Kd.bool _ 4 ?hg (N := 70) ?hd (xs := ([a0_6] : List Bool)) (inner := [.bool a0_6]) (ok := fun _ => True) (okp := fun _ => True) ?hr ?hp (fun _ hk => hk) trivial (Below.refl _ _) (Nat.le_refl _) (by simp) ?_; (case hd => rfl); (case hg => rfl); (case hr => first | (go_simp; done) | (go_simp; rfl)); (case hp => exact (Reps.one (show Kd.M Kd.bool _ _ _ a0_6 [.bool a0_6] from rfl) (Reps.none _ _))); intro v269 w57 ho58 hb hg_ hnew_; clear hg_ hnew_; (first | rw [← Ny268.out] at ho58 | (simp only [Int.reduceToNat] at ho58; rw [← Ny268.out] at ho58)); have n0_ := Aside0.mk (Kd.R_lower ho58 (below_size (by repeat (first | (with_reducible first | exact HB.out | apply below_alloc | apply pw_below_drewN | apply below_drew1 | refine below_set ?_ GE250.out | refine below_set ?_ GE251.out) | exact HB.out)))); have n1_ := Aside0.mk (blk_below (g := gb250) (o := .cells #[.bool a0_0, .bool a0_1, .bool a0_2, .bool a0_3, .bool a0_4, .bool a0_5, .bool a0_6, .int .i64 a0_7, .bool a0_8, .bool a0_9, .int .i64 a0_10, .slice A0_11 l0_11.length c0_11] 36 (0, 0)) (by (with_reducible repeat (first | refine blk_drewN ?_ _ | refine blk_drew ?_ | refine blk_alloc ?_ _)); exact BK250.out) hb); have n2_ := Aside0.mk (blk_below (g := gb251) (o := .cells #[.bool a0_0, .bool a0_1, .bool a0_2, .bool a0_3] 33 (0, 0)) (by (with_reducible repeat (first | refine blk_drewN ?_ _ | refine blk_drew ?_ | refine blk_alloc ?_ _)); exact BK251.out) hb); have n3_ := Aside0.mk (below_step (by repeat (first | (with_reducible first | exact HB.out | apply below_alloc | apply pw_below_drewN | apply below_drew1 | refine below_set ?_ GE250.out | refine below_set ?_ GE251.out) | exact HB.out)) hb); clear BK250; clear BK251; clear HB; have HO270 := n0_; have BK250 := n1_; have BK251 := n2_; have HB := n3_; clear n0_ n1_ n2_ n3_; clear hb ho58; obtain ⟨Ao59, co59, eo59⟩ := Kd.R_slice HO270.out; subst eo59) | ((with_reducible refine gate_callee (f := 53) rfl ?_); refine goesL_ (some 71) rfl rfl Tryd.func53 (by kernel_rfl) rfl #[.slice Ao59 y268.length co59] rfl (by (try simp only [List.map_toArray, List.map_cons, List.map_nil]); first | done | rfl | (simp only [List.length_drop, List.length_take]; rfl)) ?_; (with_reducible refine (sensor_bits.calls kj19 _ _ y268 t271 _ ?side1 ?side2 A54.out).mono ?_); (case side1 => repeat (first | exact (Kd.R_reads' HO270.out).2.2 | (with_reducible refine Kd.C_alloc ?_ _) | (with_reducible refine Kd.C_drewN ?_ _) | (with_reducible refine Kd.C_drew ?_))); (case side2 => exact (Kd.R_reads' HO270.out).2.1); rintro e w60 ⟨v272, rfl, ho0, hb⟩; refine ⟨_, rfl, ?_⟩; have n0_ := Aside0.mk (Kd.R_below (by (with_reducible repeat (first | apply Kd.R_alloc | apply Kd.R_drewN | apply Kd.R_drew)); exact HO270.out) hb); have n1_ := Aside0.mk (Kd.R_lower ho0 (below_size (by repeat (first | (with_reducible first | exact HB.out | apply below_alloc | apply pw_below_drewN | apply below_drew1 | refine below_set ?_ GE250.out | refine below_set ?_ GE251.out) | exact HB.out)))); have n2_ := Aside0.mk (blk_below (g := gb250) (o := .cells #[.bool a0_0, .bool a0_1, .bool a0_2, .bool a0_3, .bool a0_4, .bool a0_5, .bool a0_6, .int .i64 a0_7, .bool a0_8, .bool a0_9, .int .i64 a0_10, .slice A0_11 l0_11.length c0_11] 36 (0, 0)) (by (with_reducible repeat (first | refine blk_drewN ?_ _ | refine blk_drew ?_ | refine blk_alloc ?_ _)); exact BK250.out) hb); have n3_ := Aside0.mk (blk_below (g := gb251) (o := .cells #[.bool a0_0, .bool a0_1, .bool a0_2, .bool a0_3] 33 (0, 0)) (by (with_reducible repeat (first | refine blk_drewN ?_ _ | refine blk_drew ?_ | refine blk_alloc ?_ _)); exact BK251.out) hb); have n4_ := Aside0.mk (below_step (by repeat (first | (with_reducible first | exact HB.out | apply below_alloc | apply pw_below_drewN | apply below_drew1 | refine below_set ?_ GE250.out | refine below_set ?_ GE251.out) | exact HB.out)) hb); clear HO270; clear BK250; clear BK251; clear HB; have HO270 := n0_; have HO273 := n1_; have BK250 := n2_; have BK251 := n3_; have HB := n4_; clear n0_ n1_ n2_ n3_ n4_; (try clear hb); (try clear hb2); (try clear hk); (try clear hi); (try clear ho0)))
                    go_ret
                    exact ⟨_, by first | rfl | (simp [errW_none, errW_some] <;> rfl) | (simp [*, errW_none, errW_some] <;> rfl), by (with_reducible repeat (first | apply Kd.R_alloc | apply Kd.R_drewN | apply Kd.R_drew)); exact HO273.out, by repeat (first | (with_reducible first | exact HB.out | apply below_alloc | apply pw_below_drewN | apply below_drew1 | refine below_set ?_ GE250.out | refine below_set ?_ GE251.out) | exact HB.out)⟩
                  · rw [if_neg c53] at H
                    have c53b0 : (a1 == 2) = false := beq_eq_false_iff_ne.mpr c53
                    have c53b1 : (a1 != 2) = true := bne_iff_ne.mpr c53
                    by_cases c61 : a1 = 3
                    · rw [if_pos c61] at H
                      have c61b0 : (a1 == 3) = true := beq_iff_eq.mpr c61
                      have c61b1 : (a1 != 3) = false := bne_eq_false_iff_eq.mpr c61
                      clear c61
                      replace H := Option.bind_eq_some_iff.mp H
                      obtain ⟨t274, A620, H⟩ := H
                      replace H : (some t274) = some r := H
                      have A62 := Aside0.mk A620
                      clear A620
                      obtain rfl := Option.some.inj H
                      have hnb63 := NB250_251.out
                      have hnc63 := NB251_250.out
                      have hcz64_0 : wc.cell? ⟨gb250, 0, none⟩ = some (.bool a0_0) := (blk_cell BK250.out 0).trans rfl
                      have hcz64_1 : wc.cell? ⟨gb250, 1, none⟩ = some (.bool a0_1) := (blk_cell BK250.out 1).trans rfl
                      have hcz64_2 : wc.cell? ⟨gb250, 2, none⟩ = some (.bool a0_2) := (blk_cell BK250.out 2).trans rfl
                      have hcz64_3 : wc.cell? ⟨gb250, 3, none⟩ = some (.bool a0_3) := (blk_cell BK250.out 3).trans rfl
                      have hcz64_4 : wc.cell? ⟨gb250, 4, none⟩ = some (.bool a0_4) := (blk_cell BK250.out 4).trans rfl
                      have hcz64_5 : wc.cell? ⟨gb250, 5, none⟩ = some (.bool a0_5) := (blk_cell BK250.out 5).trans rfl
                      have hcz64_6 : wc.cell? ⟨gb250, 6, none⟩ = some (.bool a0_6) := (blk_cell BK250.out 6).trans rfl
                      have hcz64_7 : wc.cell? ⟨gb250, 7, none⟩ = some (.int .i64 a0_7) := (blk_cell BK250.out 7).trans rfl
                      have hcz64_8 : wc.cell? ⟨gb250, 8, none⟩ = some (.bool a0_8) := (blk_cell BK250.out 8).trans rfl
                      have hcz64_9 : wc.cell? ⟨gb250, 9, none⟩ = some (.bool a0_9) := (blk_cell BK250.out 9).trans rfl
                      have hcz64_10 : wc.cell? ⟨gb250, 10, none⟩ = some (.int .i64 a0_10) := (blk_cell BK250.out 10).trans rfl
                      have hcz64_11 : wc.cell? ⟨gb250, 11, none⟩ = some (.slice A0_11 l0_11.length c0_11) := (blk_cell BK250.out 11).trans rfl
                      have hfz64_0 := blk_frozen BK250.out 0
                      have hfz64_1 := blk_frozen BK250.out 1
                      have hfz64_2 := blk_frozen BK250.out 2
                      have hfz64_3 := blk_frozen BK250.out 3
                      have hfz64_4 := blk_frozen BK250.out 4
                      have hfz64_5 := blk_frozen BK250.out 5
                      have hfz64_6 := blk_frozen BK250.out 6
                      have hfz64_7 := blk_frozen BK250.out 7
                      have hfz64_8 := blk_frozen BK250.out 8
                      have hfz64_9 := blk_frozen BK250.out 9
                      have hfz64_10 := blk_frozen BK250.out 10
                      have hfz64_11 := blk_frozen BK250.out 11
                      go_wp2_with (first | ((with_reducible refine gate_callee (f := 54) rfl ?_); refine goesL_ (some 77) rfl rfl Tryd.func54 (by kernel_rfl) rfl #[.int .i64 a0_7, .int .i64 3] rfl (by (try simp only [List.map_toArray, List.map_cons, List.map_nil]); first | done | rfl | (simp only [List.length_drop, List.length_take]; rfl)) ?_; (with_reducible refine (sensor_number.calls a0_7 3 t274 _ A62.out).mono ?_); rintro e w65 ⟨v275, rfl, ho0, hb⟩; refine ⟨_, rfl, ?_⟩; have n0_ := Aside0.mk (Kd.R_lower ho0 (below_size (by repeat (first | (with_reducible first | exact HB.out | apply below_alloc | apply pw_below_drewN | apply below_drew1 | refine below_set ?_ GE250.out | refine below_set ?_ GE251.out) | exact HB.out)))); have n1_ := Aside0.mk (blk_below (g := gb250) (o := .cells #[.bool a0_0, .bool a0_1, .bool a0_2, .bool a0_3, .bool a0_4, .bool a0_5, .bool a0_6, .int .i64 a0_7, .bool a0_8, .bool a0_9, .int .i64 a0_10, .slice A0_11 l0_11.length c0_11] 36 (0, 0)) (by (with_reducible repeat (first | refine blk_drewN ?_ _ | refine blk_drew ?_ | refine blk_alloc ?_ _)); exact BK250.out) hb); have n2_ := Aside0.mk (blk_below (g := gb251) (o := .cells #[.bool a0_0, .bool a0_1, .bool a0_2, .bool a0_3] 33 (0, 0)) (by (with_reducible repeat (first | refine blk_drewN ?_ _ | refine blk_drew ?_ | refine blk_alloc ?_ _)); exact BK251.out) hb); have n3_ := Aside0.mk (below_step (by repeat (first | (with_reducible first | exact HB.out | apply below_alloc | apply pw_below_drewN | apply below_drew1 | refine below_set ?_ GE250.out | refine below_set ?_ GE251.out) | exact HB.out)) hb); clear BK250; clear BK251; clear HB; have HO276 := n0_; have BK250 := n1_; have BK251 := n2_; have HB := n3_; clear n0_ n1_ n2_ n3_; (try clear hb); (try clear hb2); (try clear hk); (try clear hi); (try clear ho0)))
                      go_ret
                      exact ⟨_, by first | rfl | (simp [errW_none, errW_some] <;> rfl) | (simp [*, errW_none, errW_some] <;> rfl), by (with_reducible repeat (first | apply Kd.R_alloc | apply Kd.R_drewN | apply Kd.R_drew)); exact HO276.out, by repeat (first | (with_reducible first | exact HB.out | apply below_alloc | apply pw_below_drewN | apply below_drew1 | refine below_set ?_ GE250.out | refine below_set ?_ GE251.out) | exact HB.out)⟩
                    · rw [if_neg c61] at H
                      have c61b0 : (a1 == 3) = false := beq_eq_false_iff_ne.mpr c61
                      have c61b1 : (a1 != 3) = true := bne_iff_ne.mpr c61
                      by_cases c66 : a1 = 4
                      · rw [if_pos c66] at H
                        have c66b0 : (a1 == 4) = true := beq_iff_eq.mpr c66
                        have c66b1 : (a1 != 4) = false := bne_eq_false_iff_eq.mpr c66
                        clear c66
                        obtain ⟨y277, hy277⟩ : ∃ y_ : List Bool, y_ = (([a0_8, a0_9] : List Bool)) := ⟨_, rfl⟩
                        replace H : ((sensor_bits.f kj19 y277).bind fun t280 => (some t280)) = some r := by first | (rw [hy277]; with_reducible exact H) | (have H2_ := (Option.bind_some _ _).symm.trans H; rw [hy277]; with_reducible exact H2_) | (have H2_ := (Option.bind_some _ _).symm.trans H; with_reducible exact H2_) | with_reducible exact H | (rw [hy277]; exact H) | exact H
                        have Ny277 := Aside0.mk hy277
                        clear hy277
                        replace H := Option.bind_eq_some_iff.mp H
                        obtain ⟨t280, A670, H⟩ := H
                        replace H : (some t280) = some r := H
                        have A67 := Aside0.mk A670
                        clear A670
                        obtain rfl := Option.some.inj H
                        have hnb68 := NB250_251.out
                        have hnc68 := NB251_250.out
                        have hcz69_0 : wc.cell? ⟨gb250, 0, none⟩ = some (.bool a0_0) := (blk_cell BK250.out 0).trans rfl
                        have hcz69_1 : wc.cell? ⟨gb250, 1, none⟩ = some (.bool a0_1) := (blk_cell BK250.out 1).trans rfl
                        have hcz69_2 : wc.cell? ⟨gb250, 2, none⟩ = some (.bool a0_2) := (blk_cell BK250.out 2).trans rfl
                        have hcz69_3 : wc.cell? ⟨gb250, 3, none⟩ = some (.bool a0_3) := (blk_cell BK250.out 3).trans rfl
                        have hcz69_4 : wc.cell? ⟨gb250, 4, none⟩ = some (.bool a0_4) := (blk_cell BK250.out 4).trans rfl
                        have hcz69_5 : wc.cell? ⟨gb250, 5, none⟩ = some (.bool a0_5) := (blk_cell BK250.out 5).trans rfl
                        have hcz69_6 : wc.cell? ⟨gb250, 6, none⟩ = some (.bool a0_6) := (blk_cell BK250.out 6).trans rfl
                        have hcz69_7 : wc.cell? ⟨gb250, 7, none⟩ = some (.int .i64 a0_7) := (blk_cell BK250.out 7).trans rfl
                        have hcz69_8 : wc.cell? ⟨gb250, 8, none⟩ = some (.bool a0_8) := (blk_cell BK250.out 8).trans rfl
                        have hcz69_9 : wc.cell? ⟨gb250, 9, none⟩ = some (.bool a0_9) := (blk_cell BK250.out 9).trans rfl
                        have hcz69_10 : wc.cell? ⟨gb250, 10, none⟩ = some (.int .i64 a0_10) := (blk_cell BK250.out 10).trans rfl
                        have hcz69_11 : wc.cell? ⟨gb250, 11, none⟩ = some (.slice A0_11 l0_11.length c0_11) := (blk_cell BK250.out 11).trans rfl
                        have hfz69_0 := blk_frozen BK250.out 0
                        have hfz69_1 := blk_frozen BK250.out 1
                        have hfz69_2 := blk_frozen BK250.out 2
                        have hfz69_3 := blk_frozen BK250.out 3
                        have hfz69_4 := blk_frozen BK250.out 4
                        have hfz69_5 := blk_frozen BK250.out 5
                        have hfz69_6 := blk_frozen BK250.out 6
                        have hfz69_7 := blk_frozen BK250.out 7
                        have hfz69_8 := blk_frozen BK250.out 8
                        have hfz69_9 := blk_frozen BK250.out 9
                        have hfz69_10 := blk_frozen BK250.out 10
                        have hfz69_11 := blk_frozen BK250.out 11
                        go_wp2_with (first | ((with_reducible refine gate_dst (N := 85) rfl ?_); (try (refine gate_guard (by rfl) ?_; dsimp only)); refine Kd.R_lit Kd.bool _ 4 ?hg (N := 85) ?hd (xs := ([a0_8, a0_9] : List Bool)) (inner := [.bool a0_8, .bool a0_9]) (ok := fun _ => True) (okp := fun _ => True) ?hr ?hp (fun _ hk => hk) trivial (Below.refl _ _) (Nat.le_refl _) (by simp) ?_; (case hd => rfl); (case hg => rfl); (case hr => first | (go_simp; done) | (go_simp; rfl)); (case hp => exact (Reps.one (show Kd.M Kd.bool _ _ _ a0_8 [.bool a0_8] from rfl) (Reps.one (show Kd.M Kd.bool _ _ _ a0_9 [.bool a0_9] from rfl) (Reps.none _ _)))); intro v278 w70 ho71 hb hg_ hnew_; clear hg_ hnew_; (first | rw [← Ny277.out] at ho71 | (simp only [Int.reduceToNat] at ho71; rw [← Ny277.out] at ho71)); have n0_ := Aside0.mk (Kd.R_lower ho71 (below_size (by repeat (first | (with_reducible first | exact HB.out | apply below_alloc | apply pw_below_drewN | apply below_drew1 | refine below_set ?_ GE250.out | refine below_set ?_ GE251.out) | exact HB.out)))); have n1_ := Aside0.mk (blk_below (g := gb250) (o := .cells #[.bool a0_0, .bool a0_1, .bool a0_2, .bool a0_3, .bool a0_4, .bool a0_5, .bool a0_6, .int .i64 a0_7, .bool a0_8, .bool a0_9, .int .i64 a0_10, .slice A0_11 l0_11.length c0_11] 36 (0, 0)) (by (with_reducible repeat (first | refine blk_drewN ?_ _ | refine blk_drew ?_ | refine blk_alloc ?_ _)); exact BK250.out) hb); have n2_ := Aside0.mk (blk_below (g := gb251) (o := .cells #[.bool a0_0, .bool a0_1, .bool a0_2, .bool a0_3] 33 (0, 0)) (by (with_reducible repeat (first | refine blk_drewN ?_ _ | refine blk_drew ?_ | refine blk_alloc ?_ _)); exact BK251.out) hb); have n3_ := Aside0.mk (below_step (by repeat (first | (with_reducible first | exact HB.out | apply below_alloc | apply pw_below_drewN | apply below_drew1 | refine below_set ?_ GE250.out | refine below_set ?_ GE251.out) | exact HB.out)) hb); clear BK250; clear BK251; clear HB; have HO279 := n0_; have BK250 := n1_; have BK251 := n2_; have HB := n3_; clear n0_ n1_ n2_ n3_; clear hb ho71; obtain ⟨Ao72, co72, eo72⟩ := Kd.R_slice HO279.out; subst eo72) | ((with_reducible refine gate_callee (f := 53) rfl ?_); refine goesL_ (some 86) rfl rfl Tryd.func53 (by kernel_rfl) rfl #[.slice Ao72 y277.length co72] rfl (by (try simp only [List.map_toArray, List.map_cons, List.map_nil]); first | done | rfl | (simp only [List.length_drop, List.length_take]; rfl)) ?_; (with_reducible refine (sensor_bits.calls kj19 _ _ y277 t280 _ ?side1 ?side2 A67.out).mono ?_); (case side1 => repeat (first | exact (Kd.R_reads' HO279.out).2.2 | (with_reducible refine Kd.C_alloc ?_ _) | (with_reducible refine Kd.C_drewN ?_ _) | (with_reducible refine Kd.C_drew ?_))); (case side2 => exact (Kd.R_reads' HO279.out).2.1); rintro e w73 ⟨v281, rfl, ho0, hb⟩; refine ⟨_, rfl, ?_⟩; have n0_ := Aside0.mk (Kd.R_below (by (with_reducible repeat (first | apply Kd.R_alloc | apply Kd.R_drewN | apply Kd.R_drew)); exact HO279.out) hb); have n1_ := Aside0.mk (Kd.R_lower ho0 (below_size (by repeat (first | (with_reducible first | exact HB.out | apply below_alloc | apply pw_below_drewN | apply below_drew1 | refine below_set ?_ GE250.out | refine below_set ?_ GE251.out) | exact HB.out)))); have n2_ := Aside0.mk (blk_below (g := gb250) (o := .cells #[.bool a0_0, .bool a0_1, .bool a0_2, .bool a0_3, .bool a0_4, .bool a0_5, .bool a0_6, .int .i64 a0_7, .bool a0_8, .bool a0_9, .int .i64 a0_10, .slice A0_11 l0_11.length c0_11] 36 (0, 0)) (by (with_reducible repeat (first | refine blk_drewN ?_ _ | refine blk_drew ?_ | refine blk_alloc ?_ _)); exact BK250.out) hb); have n3_ := Aside0.mk (blk_below (g := gb251) (o := .cells #[.bool a0_0, .bool a0_1, .bool a0_2, .bool a0_3] 33 (0, 0)) (by (with_reducible repeat (first | refine blk_drewN ?_ _ | refine blk_drew ?_ | refine blk_alloc ?_ _)); exact BK251.out) hb); have n4_ := Aside0.mk (below_step (by repeat (first | (with_reducible first | exact HB.out | apply below_alloc | apply pw_below_drewN | apply below_drew1 | refine below_set ?_ GE250.out | refine below_set ?_ GE251.out) | exact HB.out)) hb); clear HO279; clear BK250; clear BK251; clear HB; have HO279 := n0_; have HO282 := n1_; have BK250 := n2_; have BK251 := n3_; have HB := n4_; clear n0_ n1_ n2_ n3_ n4_; (try clear hb); (try clear hb2); (try clear hk); (try clear hi); (try clear ho0)))
                        go_ret
                        exact ⟨_, by first | rfl | (simp [errW_none, errW_some] <;> rfl) | (simp [*, errW_none, errW_some] <;> rfl), by (with_reducible repeat (first | apply Kd.R_alloc | apply Kd.R_drewN | apply Kd.R_drew)); exact HO282.out, by repeat (first | (with_reducible first | exact HB.out | apply below_alloc | apply pw_below_drewN | apply below_drew1 | refine below_set ?_ GE250.out | refine below_set ?_ GE251.out) | exact HB.out)⟩
                      · rw [if_neg c66] at H
                        have c66b0 : (a1 == 4) = false := beq_eq_false_iff_ne.mpr c66
                        have c66b1 : (a1 != 4) = true := bne_iff_ne.mpr c66
                        by_cases c74 : a1 = 5
                        · rw [if_pos c74] at H
                          have c74b0 : (a1 == 5) = true := beq_iff_eq.mpr c74
                          have c74b1 : (a1 != 5) = false := bne_eq_false_iff_eq.mpr c74
                          clear c74
                          replace H := Option.bind_eq_some_iff.mp H
                          obtain ⟨t283, A750, H⟩ := H
                          replace H : (some t283) = some r := H
                          have A75 := Aside0.mk A750
                          clear A750
                          obtain rfl := Option.some.inj H
                          have hnb76 := NB250_251.out
                          have hnc76 := NB251_250.out
                          have hcz77_0 : wc.cell? ⟨gb250, 0, none⟩ = some (.bool a0_0) := (blk_cell BK250.out 0).trans rfl
                          have hcz77_1 : wc.cell? ⟨gb250, 1, none⟩ = some (.bool a0_1) := (blk_cell BK250.out 1).trans rfl
                          have hcz77_2 : wc.cell? ⟨gb250, 2, none⟩ = some (.bool a0_2) := (blk_cell BK250.out 2).trans rfl
                          have hcz77_3 : wc.cell? ⟨gb250, 3, none⟩ = some (.bool a0_3) := (blk_cell BK250.out 3).trans rfl
                          have hcz77_4 : wc.cell? ⟨gb250, 4, none⟩ = some (.bool a0_4) := (blk_cell BK250.out 4).trans rfl
                          have hcz77_5 : wc.cell? ⟨gb250, 5, none⟩ = some (.bool a0_5) := (blk_cell BK250.out 5).trans rfl
                          have hcz77_6 : wc.cell? ⟨gb250, 6, none⟩ = some (.bool a0_6) := (blk_cell BK250.out 6).trans rfl
                          have hcz77_7 : wc.cell? ⟨gb250, 7, none⟩ = some (.int .i64 a0_7) := (blk_cell BK250.out 7).trans rfl
                          have hcz77_8 : wc.cell? ⟨gb250, 8, none⟩ = some (.bool a0_8) := (blk_cell BK250.out 8).trans rfl
                          have hcz77_9 : wc.cell? ⟨gb250, 9, none⟩ = some (.bool a0_9) := (blk_cell BK250.out 9).trans rfl
                          have hcz77_10 : wc.cell? ⟨gb250, 10, none⟩ = some (.int .i64 a0_10) := (blk_cell BK250.out 10).trans rfl
                          have hcz77_11 : wc.cell? ⟨gb250, 11, none⟩ = some (.slice A0_11 l0_11.length c0_11) := (blk_cell BK250.out 11).trans rfl
                          have hfz77_0 := blk_frozen BK250.out 0
                          have hfz77_1 := blk_frozen BK250.out 1
                          have hfz77_2 := blk_frozen BK250.out 2
                          have hfz77_3 := blk_frozen BK250.out 3
                          have hfz77_4 := blk_frozen BK250.out 4
                          have hfz77_5 := blk_frozen BK250.out 5
                          have hfz77_6 := blk_frozen BK250.out 6
                          have hfz77_7 := blk_frozen BK250.out 7
                          have hfz77_8 := blk_frozen BK250.out 8
                          have hfz77_9 := blk_frozen BK250.out 9
                          have hfz77_10 := blk_frozen BK250.out 10
                          have hfz77_11 := blk_frozen BK250.out 11
                          go_wp2_with (first | ((with_reducible refine gate_callee (f := 54) rfl ?_); refine goesL_ (some 92) rfl rfl Tryd.func54 (by kernel_rfl) rfl #[.int .i64 a0_10, .int .i64 256] rfl (by (try simp only [List.map_toArray, List.map_cons, List.map_nil]); first | done | rfl | (simp only [List.length_drop, List.length_take]; rfl)) ?_; (with_reducible refine (sensor_number.calls a0_10 256 t283 _ A75.out).mono ?_); rintro e w78 ⟨v284, rfl, ho0, hb⟩; refine ⟨_, rfl, ?_⟩; have n0_ := Aside0.mk (Kd.R_lower ho0 (below_size (by repeat (first | (with_reducible first | exact HB.out | apply below_alloc | apply pw_below_drewN | apply below_drew1 | refine below_set ?_ GE250.out | refine below_set ?_ GE251.out) | exact HB.out)))); have n1_ := Aside0.mk (blk_below (g := gb250) (o := .cells #[.bool a0_0, .bool a0_1, .bool a0_2, .bool a0_3, .bool a0_4, .bool a0_5, .bool a0_6, .int .i64 a0_7, .bool a0_8, .bool a0_9, .int .i64 a0_10, .slice A0_11 l0_11.length c0_11] 36 (0, 0)) (by (with_reducible repeat (first | refine blk_drewN ?_ _ | refine blk_drew ?_ | refine blk_alloc ?_ _)); exact BK250.out) hb); have n2_ := Aside0.mk (blk_below (g := gb251) (o := .cells #[.bool a0_0, .bool a0_1, .bool a0_2, .bool a0_3] 33 (0, 0)) (by (with_reducible repeat (first | refine blk_drewN ?_ _ | refine blk_drew ?_ | refine blk_alloc ?_ _)); exact BK251.out) hb); have n3_ := Aside0.mk (below_step (by repeat (first | (with_reducible first | exact HB.out | apply below_alloc | apply pw_below_drewN | apply below_drew1 | refine below_set ?_ GE250.out | refine below_set ?_ GE251.out) | exact HB.out)) hb); clear BK250; clear BK251; clear HB; have HO285 := n0_; have BK250 := n1_; have BK251 := n2_; have HB := n3_; clear n0_ n1_ n2_ n3_; (try clear hb); (try clear hb2); (try clear hk); (try clear hi); (try clear ho0)))
                          go_ret
                          exact ⟨_, by first | rfl | (simp [errW_none, errW_some] <;> rfl) | (simp [*, errW_none, errW_some] <;> rfl), by (with_reducible repeat (first | apply Kd.R_alloc | apply Kd.R_drewN | apply Kd.R_drew)); exact HO285.out, by repeat (first | (with_reducible first | exact HB.out | apply below_alloc | apply pw_below_drewN | apply below_drew1 | refine below_set ?_ GE250.out | refine below_set ?_ GE251.out) | exact HB.out)⟩
                        · rw [if_neg c74] at H
                          have c74b0 : (a1 == 5) = false := beq_eq_false_iff_ne.mpr c74
                          have c74b1 : (a1 != 5) = true := bne_iff_ne.mpr c74
                          obtain rfl := Option.some.inj H
                          go_wp2
                          go_ret
                          exact ⟨_, by first | rfl | (simp [errW_none, errW_some] <;> rfl) | (simp [*, errW_none, errW_some] <;> rfl), by first | exact Kd.R_nil _ _ _ _ _ | exact Kd.N_nil _ _ _ _ _ | exact Kd.V_nil _ _ _ _ _ | exact Kd.Q_nil _ _ _ _ _ | exact Kd.S_nil _ _ _ _ _, by repeat (first | (with_reducible first | exact HB.out | apply below_alloc | apply pw_below_drewN | apply below_drew1 | refine below_set ?_ GE250.out | refine below_set ?_ GE251.out) | exact HB.out)⟩

-- NOT PRINTED: function 7 (crossbucklaw14_InputsTold)

end Go.Proofs.YtfijlaahifeimaaDoor.PS
