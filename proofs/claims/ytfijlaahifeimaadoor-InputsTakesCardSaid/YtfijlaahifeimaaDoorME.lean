/- inputs: Now. -/
import Derived.Test.YtfijlaahifeimaaDoorMC
import Derived.Test.YtfijlaahifeimaaDoorMD
import Derived.Deep.RegionHeld3
namespace Go.Proofs.YtfijlaahifeimaaDoor.PE
open Go.RowKit Go.Extern.Stop Go.Stop Go.Extern Go.Proofs.YtfijlaahifeimaaDoorW.PrintWords Go.Proofs.YtfijlaahifeimaaDoorW.PrintLast Go.Proofs.YtfijlaahifeimaaDoorW.PrintMore Go.Proofs.YtfijlaahifeimaaDoor.PS
set_option linter.unusedVariables false
set_option linter.unusedSimpArgs false
theorem LK.only2 {W W' : World} {g b : Nat} {F now : Int} {ok : Nat → Prop} {st : Nat → Ch} (h : LK W g F now ok st) (hO : Only b W W') (hb : g ≠ b) (ho : ∀ k, ok k → k ≠ b) : LK W' g F now ok st :=
  h.step (hO.block g h.lt hb) (fun k hk hl => hO.block k hl (ho k hk))
theorem C_cnt (w : World) (s : S48) : Kd.C k48 (w.alloc (.cells #[.bool s.f0, .int .i64 s.f1, .int .i64 s.f2, .int .i64 s.f3, .int .i64 s.f4] 48)) (some ⟨w.heap.size, 0, none⟩) 1 [s] := by
  refine ⟨rfl, by decide, fun _ => ⟨⟨w.heap.size, 0, none⟩, rfl, fun j p hj => ?_⟩⟩
  cases j with
  | succ j => simp at hj
  | zero =>
    have hp : s = p := by simpa using hj
    subst hp
    refine ⟨_, rfl, k48_mk _ s, fun i u hu => ?_⟩
    have e : (⟨w.heap.size, 0, none⟩ : Addr).add (0 * k48.sz + i) = ⟨w.heap.size, i, none⟩ := by simp [Addr.add]; intro h; exact h.symm
    rw [e]
    rw [cell_new w #[.bool s.f0, .int .i64 s.f1, .int .i64 s.f2, .int .i64 s.f3, .int .i64 s.f4] 48 i]
    simpa using hu
theorem info48 : Option.map (fun i => (i.zero, i.size, i.bytes)) (Tryd.prog.info? 48) = some (some (.agg #[.bool false, .int .i64 0, .int .i64 0, .int .i64 0, .int .i64 0]), 5, 40) := by kernel_rfl
/-- What the outer world is taken to be. -/
def nowI (F now : Int) (st : Nat → Ch) (n : Nat) : Inp := nowOf (dataF F now st) (isF F now st) ((atF F now st 0).had && ((atF F now st 0).age == 0)) n
set_option maxHeartbeats 8000000 in
set_option maxRecDepth 100000 in
theorem Now_calls {x g : Nat} {F now : Int} {n : Nat} {ok : Nat → Prop} {st : Nat → Ch} (w : World) (hx : w.heap[x]? = some (.cells #[.pointer (some ⟨g, 0, none⟩), .int .i64 n] 58 (0, 0))) (h : LK w g F now ok st) (hn : now ≤ 1000000) (h1 : 1 ≤ n ∧ n ≤ 8) :
    Calls Tryd.prog 16 #[.pointer (some ⟨x, 0, none⟩)] w fun e w' => ∃ v, e = .returned ((nowI F now st n).val v) ∧ Kd.R k48 48 w' w.heap.size (fun _ => True) v (nowI F now st n).tracks ∧ Below w.heap.size w w' := by
  have HL := Aside0.mk h.bound
  have k0 : World.cell? w ⟨x, 0, none⟩ = some (.pointer (some ⟨g, 0, none⟩)) := cell_of_heap hx 0
  have HXX := Aside0.mk hx
  have hlx := heap_lt hx
  have hlg := h.lt
  have HNE := Aside0.mk (show g ≠ w.heap.size + 1 ∧ x ≠ w.heap.size + 1 ∧ (∀ k, (ok k ∧ k < w.heap.size) → k ≠ w.heap.size + 1) from ⟨by omega, by omega, fun k hk => by have := hk.2; omega⟩)
  have HLX := Aside0.mk hlx
  have HLG := Aside0.mk hlg
  have HN := Aside0.mk hn
  have HK := Aside0.mk h1
  have HI : Aside0 (nowI F now st n = nowOf (dataF F now st) (isF F now st) ((atF F now st 0).had && ((atF F now st 0).age == 0)) n) := ⟨rfl⟩
  generalize nowI F now st n = I at HI
  clear hx h hlx hlg hn h1
  have hlx := HLX.out
  go_enter Tryd.func16, Tryd.ntmps16
  go_wp2_with fail
  clear hlx
  obtain ⟨w0, hw0⟩ : ∃ w0, w0 = (w.alloc (.cells #[.bool false, .bool false, .bool false, .bool false, .bool false, .bool false, .bool false, .int .i64 0, .bool false, .bool false, .int .i64 0, .slice none 0 0] 36)).alloc (.cells #[.bool false, .bool false, .bool false, .bool false, .bool false, .bool false, .bool false, .int .i64 0, .bool false, .bool false, .int .i64 0, .slice none 0 0] 36) := ⟨_, rfl⟩
  have B0 : Aside0 (Below w.heap.size w w0) := ⟨by rw [hw0]; exact below_alloc (below_alloc (Below.refl _ _) _) _⟩
  have HA0 : Aside0 (w0.heap[w.heap.size]? = some (.cells #[.bool false, .bool false, .bool false, .bool false, .bool false, .bool false, .bool false, .int .i64 0, .bool false, .bool false, .int .i64 0, .slice none 0 0] 36 (0, 0))) := ⟨by rw [hw0]; exact blk_alloc (heap_new w _) _⟩
  have HI0 : Aside0 (w0.heap[w.heap.size + 1]? = some (.cells #[.bool false, .bool false, .bool false, .bool false, .bool false, .bool false, .bool false, .int .i64 0, .bool false, .bool false, .int .i64 0, .slice none 0 0] 36 (0, 0))) := ⟨by
    rw [hw0]
    have hs : (w.alloc (.cells #[.bool false, .bool false, .bool false, .bool false, .bool false, .bool false, .bool false, .int .i64 0, .bool false, .bool false, .int .i64 0, .slice none 0 0] 36)).heap.size = w.heap.size + 1 := by simp
    rw [← hs]; exact heap_new _ _⟩
  have L0 := Aside0.mk (HL.out.below B0.out)
  have HX0 := Aside0.mk (heap_below B0 HXX.out)
  rw [← hw0]
  clear hw0 k0 HL HXX
  refine (Fresh_calls w0 L0.out HN.out 0).mono ?_
  rintro e w0a ⟨v0a, rfl, hR, hb⟩
  obtain ⟨A0a, c0a, rfl, hc0a, hC0a⟩ := Kd.R_reads hR
  have B0a := Aside0.mk (below_thenB B0.out hb B0.out.size)
  have L0a := Aside0.mk (L0.out.below hb)
  have HA0a := Aside0.mk (heap_below ⟨hb⟩ HA0.out)
  have HI0a := Aside0.mk (heap_below ⟨hb⟩ HI0.out)
  have HX0a := Aside0.mk (heap_below ⟨hb⟩ HX0.out)
  clear hR hb
  go_wp2_with fail
  refine (sensor_Barrier.calls A0a c0a _ _ _ _ _ _ w0a hC0a hc0a (sBar_eq _ _)).mono ?_
  rintro e w0b ⟨rfl, hb⟩
  have B0b := Aside0.mk (below_thenB B0a.out hb B0a.out.size)
  have L0b := Aside0.mk (L0a.out.below hb)
  have HA0b := Aside0.mk (heap_below ⟨hb⟩ HA0a.out)
  have HI0b := Aside0.mk (heap_below ⟨hb⟩ HI0a.out)
  have HX0b := Aside0.mk (heap_below ⟨hb⟩ HX0a.out)
  clear hb hC0a hc0a B0a L0a HA0a HI0a HX0a
  have q0 : World.cell? w0b ⟨w.heap.size + 1, 0, none⟩ = some (.bool false) := cell_of_heap HI0b.out 0
  have f0 := frozen_of_heap HI0b.out 0
  have q1 : World.cell? w0b ⟨w.heap.size + 1, 1, none⟩ = some (.bool false) := cell_of_heap HI0b.out 1
  have f1 := frozen_of_heap HI0b.out 1
  have q2 : World.cell? w0b ⟨w.heap.size + 1, 2, none⟩ = some (.bool false) := cell_of_heap HI0b.out 2
  have f2 := frozen_of_heap HI0b.out 2
  have q3 : World.cell? w0b ⟨w.heap.size + 1, 3, none⟩ = some (.bool false) := cell_of_heap HI0b.out 3
  have f3 := frozen_of_heap HI0b.out 3
  go_upto_region 4 with fail
  obtain ⟨w1, hw1⟩ : ∃ w1, w1 = ((((w0b.setCell ⟨w.heap.size + 1, 0, none⟩ (.bool (sBar (dataF F now st 0) (isF F now st 0)).1)).setCell ⟨w.heap.size + 1, 1, none⟩ (.bool (sBar (dataF F now st 0) (isF F now st 0)).2.1)).setCell ⟨w.heap.size + 1, 2, none⟩ (.bool (sBar (dataF F now st 0) (isF F now st 0)).2.2.1)).setCell ⟨w.heap.size + 1, 3, none⟩ (.bool (sBar (dataF F now st 0) (isF F now st 0)).2.2.2)) := ⟨_, rfl⟩
  have O1 : Aside0 (Only (w.heap.size + 1) w0b w1) := ⟨by rw [hw1]; exact ((((set_only _ _ _ _).trans (set_only _ _ _ _)).trans (set_only _ _ _ _)).trans (set_only _ _ _ _))⟩
  have HI1 : Aside0 (w1.heap[w.heap.size + 1]? = some (.cells #[.bool (sBar (dataF F now st 0) (isF F now st 0)).1, .bool (sBar (dataF F now st 0) (isF F now st 0)).2.1, .bool (sBar (dataF F now st 0) (isF F now st 0)).2.2.1, .bool (sBar (dataF F now st 0) (isF F now st 0)).2.2.2, .bool false, .bool false, .bool false, .int .i64 0, .bool false, .bool false, .int .i64 0, .slice none 0 0] 36 (0, 0))) := ⟨by rw [hw1]; simpa using blk_set (blk_set (blk_set (blk_set (HI0b.out) 0 (.bool (sBar (dataF F now st 0) (isF F now st 0)).1)) 1 (.bool (sBar (dataF F now st 0) (isF F now st 0)).2.1)) 2 (.bool (sBar (dataF F now st 0) (isF F now st 0)).2.2.1)) 3 (.bool (sBar (dataF F now st 0) (isF F now st 0)).2.2.2)⟩
  have L1 := Aside0.mk (L0b.out.only2 O1.out HNE.out.1 HNE.out.2.2)
  have HX1 := Aside0.mk (heap_only O1.out HNE.out.2.1 HX0b.out)
  have HA1 := Aside0.mk (heap_only O1.out (by omega) HA0b.out)
  have B1 := bonly B0b O1.out (by omega)
  rw [← hw1]
  clear hw1 O1
  clear q0 q1 q2 q3 f0 f1 f2 f3 B0 L0 HA0 HI0 HX0 B0b L0b HA0b HI0b HX0b
  have k0 : World.cell? w1 ⟨x, 0, none⟩ = some (.pointer (some ⟨g, 0, none⟩)) := cell_of_heap HX1.out 0
  go_wp2_with fail
  refine (At_calls w1 L1.out HN.out 0).mono ?_
  rintro e w1a ⟨v1a, rfl, hR, hb⟩
  obtain ⟨A1a, c1a, rfl, hc1a, -⟩ := Kd.R_reads hR
  have B1a := Aside0.mk (below_thenB B1.out hb B1.out.size)
  have L1a := Aside0.mk (L1.out.below hb)
  have HA1a := Aside0.mk (heap_below ⟨hb⟩ HA1.out)
  have HI1a := Aside0.mk (heap_below ⟨hb⟩ HI1.out)
  have HX1a := Aside0.mk (heap_below ⟨hb⟩ HX1.out)
  clear hR hb k0 hc1a
  go_upto_region 5 with fail
  obtain ⟨w2, hw2⟩ : ∃ w2, w2 = w1a.alloc (.cells #[.bool (atF F now st 0).had, .int .i64 (atF F now st 0).seq, .int .i64 (atF F now st 0).age, .slice A1a (atF F now st 0).data.length c1a] 67) := ⟨_, rfl⟩
  have hb : Below w1a.heap.size w1a w2 := by rw [hw2]; exact below_alloc (Below.refl _ _) _
  have hJ : w2.heap[w1a.heap.size]? = some (.cells #[.bool (atF F now st 0).had, .int .i64 (atF F now st 0).seq, .int .i64 (atF F now st 0).age, .slice A1a (atF F now st 0).data.length c1a] 67 (0, 0)) := by rw [hw2]; exact heap_new _ _
  rw [← hw2]
  have B2 := Aside0.mk (below_thenB B1a.out hb B1a.out.size)
  have L2 := Aside0.mk (L1a.out.below hb)
  have HA2 := Aside0.mk (heap_below ⟨hb⟩ HA1a.out)
  have HI2 := Aside0.mk (heap_below ⟨hb⟩ HI1a.out)
  have HX2 := Aside0.mk (heap_below ⟨hb⟩ HX1a.out)
  clear hw2 hb B1 L1 HA1 HI1 HX1 B1a L1a HA1a HI1a HX1a
  have j0 : World.cell? w2 ⟨w1a.heap.size, 0, none⟩ = some (.bool (atF F now st 0).had) := cell_of_heap hJ 0
  have j2 : World.cell? w2 ⟨w1a.heap.size, 2, none⟩ = some (.int .i64 (atF F now st 0).age) := cell_of_heap hJ 2
  have q4 : World.cell? w2 ⟨w.heap.size + 1, 4, none⟩ = some (.bool false) := cell_of_heap HI2.out 4
  have f4 := frozen_of_heap HI2.out 4
  clear hJ
  cases hh : (atF F now st 0).had
  · rw [hh] at j0
    have HH := Aside0.mk hh
    clear hh
    go_upto_region 6 with fail
    obtain ⟨w3, hw3⟩ : ∃ w3, w3 = (w2.setCell ⟨w.heap.size + 1, 4, none⟩ (.bool false)) := ⟨_, rfl⟩
    have O3 : Aside0 (Only (w.heap.size + 1) w2 w3) := ⟨by rw [hw3]; exact (set_only _ _ _ _)⟩
    have HI3 : Aside0 (w3.heap[w.heap.size + 1]? = some (.cells #[.bool (sBar (dataF F now st 0) (isF F now st 0)).1, .bool (sBar (dataF F now st 0) (isF F now st 0)).2.1, .bool (sBar (dataF F now st 0) (isF F now st 0)).2.2.1, .bool (sBar (dataF F now st 0) (isF F now st 0)).2.2.2, .bool false, .bool false, .bool false, .int .i64 0, .bool false, .bool false, .int .i64 0, .slice none 0 0] 36 (0, 0))) := ⟨by rw [hw3]; simpa using blk_set (HI2.out) 4 (.bool false)⟩
    have L3 := Aside0.mk (L2.out.only2 O3.out HNE.out.1 HNE.out.2.2)
    have HX3 := Aside0.mk (heap_only O3.out HNE.out.2.1 HX2.out)
    have HA3 := Aside0.mk (heap_only O3.out (by omega) HA2.out)
    have B3 := bonly B2 O3.out (by omega)
    rw [← hw3]
    clear hw3 O3
    clear j0 j2 q4 f4 B2 L2 HA2 HI2 HX2
    go_wp2_with fail
    refine (Fresh_calls w3 L3.out HN.out 1).mono ?_
    rintro e w3a ⟨v3a, rfl, hR, hb⟩
    obtain ⟨A3a, c3a, rfl, hc3a, hC3a⟩ := Kd.R_reads hR
    have B3a := Aside0.mk (below_thenB B3.out hb B3.out.size)
    have L3a := Aside0.mk (L3.out.below hb)
    have HA3a := Aside0.mk (heap_below ⟨hb⟩ HA3.out)
    have HI3a := Aside0.mk (heap_below ⟨hb⟩ HI3.out)
    have HX3a := Aside0.mk (heap_below ⟨hb⟩ HX3.out)
    clear hR hb
    go_wp2_with fail
    refine (sensor_Lamps.calls A3a c3a _ _ _ w3a hC3a hc3a (sLamps_eq _ _)).mono ?_
    rintro e w3b ⟨rfl, hb⟩
    replace hb := hb.below
    have B3b := Aside0.mk (below_thenB B3a.out hb B3a.out.size)
    have L3b := Aside0.mk (L3a.out.below hb)
    have HA3b := Aside0.mk (heap_below ⟨hb⟩ HA3a.out)
    have HI3b := Aside0.mk (heap_below ⟨hb⟩ HI3a.out)
    have HX3b := Aside0.mk (heap_below ⟨hb⟩ HX3a.out)
    clear hb hC3a hc3a B3a L3a HA3a HI3a HX3a
    have q5 : World.cell? w3b ⟨w.heap.size + 1, 5, none⟩ = some (.bool false) := cell_of_heap HI3b.out 5
    have f5 := frozen_of_heap HI3b.out 5
    go_upto_region 7 with fail
    obtain ⟨w4, hw4⟩ : ∃ w4, w4 = (w3b.setCell ⟨w.heap.size + 1, 5, none⟩ (.bool (sLamps (dataF F now st 1) (isF F now st 1)))) := ⟨_, rfl⟩
    have O4 : Aside0 (Only (w.heap.size + 1) w3b w4) := ⟨by rw [hw4]; exact (set_only _ _ _ _)⟩
    have HI4 : Aside0 (w4.heap[w.heap.size + 1]? = some (.cells #[.bool (sBar (dataF F now st 0) (isF F now st 0)).1, .bool (sBar (dataF F now st 0) (isF F now st 0)).2.1, .bool (sBar (dataF F now st 0) (isF F now st 0)).2.2.1, .bool (sBar (dataF F now st 0) (isF F now st 0)).2.2.2, .bool false, .bool (sLamps (dataF F now st 1) (isF F now st 1)), .bool false, .int .i64 0, .bool false, .bool false, .int .i64 0, .slice none 0 0] 36 (0, 0))) := ⟨by rw [hw4]; simpa using blk_set (HI3b.out) 5 (.bool (sLamps (dataF F now st 1) (isF F now st 1)))⟩
    have L4 := Aside0.mk (L3b.out.only2 O4.out HNE.out.1 HNE.out.2.2)
    have HX4 := Aside0.mk (heap_only O4.out HNE.out.2.1 HX3b.out)
    have HA4 := Aside0.mk (heap_only O4.out (by omega) HA3b.out)
    have B4 := bonly B3b O4.out (by omega)
    rw [← hw4]
    clear hw4 O4
    clear q5 f5 B3 L3 HA3 HI3 HX3 B3b L3b HA3b HI3b HX3b
    go_wp2_with fail
    refine (Fresh_calls w4 L4.out HN.out 2).mono ?_
    rintro e w4a ⟨v4a, rfl, hR, hb⟩
    obtain ⟨A4a, c4a, rfl, hc4a, hC4a⟩ := Kd.R_reads hR
    have B4a := Aside0.mk (below_thenB B4.out hb B4.out.size)
    have L4a := Aside0.mk (L4.out.below hb)
    have HA4a := Aside0.mk (heap_below ⟨hb⟩ HA4.out)
    have HI4a := Aside0.mk (heap_below ⟨hb⟩ HI4.out)
    have HX4a := Aside0.mk (heap_below ⟨hb⟩ HX4.out)
    clear hR hb
    go_wp2_with fail
    refine (sensor_Obstacle.calls A4a c4a _ _ _ w4a hC4a hc4a (sObst_eq _ _)).mono ?_
    rintro e w4b ⟨rfl, hb⟩
    replace hb := hb.below
    have B4b := Aside0.mk (below_thenB B4a.out hb B4a.out.size)
    have L4b := Aside0.mk (L4a.out.below hb)
    have HA4b := Aside0.mk (heap_below ⟨hb⟩ HA4a.out)
    have HI4b := Aside0.mk (heap_below ⟨hb⟩ HI4a.out)
    have HX4b := Aside0.mk (heap_below ⟨hb⟩ HX4a.out)
    clear hb hC4a hc4a B4a L4a HA4a HI4a HX4a
    have q6 : World.cell? w4b ⟨w.heap.size + 1, 6, none⟩ = some (.bool false) := cell_of_heap HI4b.out 6
    have f6 := frozen_of_heap HI4b.out 6
    go_upto_region 8 with fail
    obtain ⟨w5, hw5⟩ : ∃ w5, w5 = (w4b.setCell ⟨w.heap.size + 1, 6, none⟩ (.bool (sObst (dataF F now st 2) (isF F now st 2)))) := ⟨_, rfl⟩
    have O5 : Aside0 (Only (w.heap.size + 1) w4b w5) := ⟨by rw [hw5]; exact (set_only _ _ _ _)⟩
    have HI5 : Aside0 (w5.heap[w.heap.size + 1]? = some (.cells #[.bool (sBar (dataF F now st 0) (isF F now st 0)).1, .bool (sBar (dataF F now st 0) (isF F now st 0)).2.1, .bool (sBar (dataF F now st 0) (isF F now st 0)).2.2.1, .bool (sBar (dataF F now st 0) (isF F now st 0)).2.2.2, .bool false, .bool (sLamps (dataF F now st 1) (isF F now st 1)), .bool (sObst (dataF F now st 2) (isF F now st 2)), .int .i64 0, .bool false, .bool false, .int .i64 0, .slice none 0 0] 36 (0, 0))) := ⟨by rw [hw5]; simpa using blk_set (HI4b.out) 6 (.bool (sObst (dataF F now st 2) (isF F now st 2)))⟩
    have L5 := Aside0.mk (L4b.out.only2 O5.out HNE.out.1 HNE.out.2.2)
    have HX5 := Aside0.mk (heap_only O5.out HNE.out.2.1 HX4b.out)
    have HA5 := Aside0.mk (heap_only O5.out (by omega) HA4b.out)
    have B5 := bonly B4b O5.out (by omega)
    rw [← hw5]
    clear hw5 O5
    clear q6 f6 B4 L4 HA4 HI4 HX4 B4b L4b HA4b HI4b HX4b
    go_wp2_with fail
    refine (Fresh_calls w5 L5.out HN.out 3).mono ?_
    rintro e w5a ⟨v5a, rfl, hR, hb⟩
    obtain ⟨A5a, c5a, rfl, hc5a, hC5a⟩ := Kd.R_reads hR
    have B5a := Aside0.mk (below_thenB B5.out hb B5.out.size)
    have L5a := Aside0.mk (L5.out.below hb)
    have HA5a := Aside0.mk (heap_below ⟨hb⟩ HA5.out)
    have HI5a := Aside0.mk (heap_below ⟨hb⟩ HI5.out)
    have HX5a := Aside0.mk (heap_below ⟨hb⟩ HX5.out)
    clear hR hb
    go_wp2_with fail
    refine (sensor_Mode.calls A5a c5a _ _ _ w5a hC5a hc5a (sMode_eq _ _)).mono ?_
    rintro e w5b ⟨rfl, hb⟩
    replace hb := hb.below
    have B5b := Aside0.mk (below_thenB B5a.out hb B5a.out.size)
    have L5b := Aside0.mk (L5a.out.below hb)
    have HA5b := Aside0.mk (heap_below ⟨hb⟩ HA5a.out)
    have HI5b := Aside0.mk (heap_below ⟨hb⟩ HI5a.out)
    have HX5b := Aside0.mk (heap_below ⟨hb⟩ HX5a.out)
    clear hb hC5a hc5a B5a L5a HA5a HI5a HX5a
    have q7 : World.cell? w5b ⟨w.heap.size + 1, 7, none⟩ = some (.int .i64 0) := cell_of_heap HI5b.out 7
    have f7 := frozen_of_heap HI5b.out 7
    go_upto_region 9 with fail
    obtain ⟨w6, hw6⟩ : ∃ w6, w6 = (w5b.setCell ⟨w.heap.size + 1, 7, none⟩ (.int .i64 (sMode (dataF F now st 3) (isF F now st 3)))) := ⟨_, rfl⟩
    have O6 : Aside0 (Only (w.heap.size + 1) w5b w6) := ⟨by rw [hw6]; exact (set_only _ _ _ _)⟩
    have HI6 : Aside0 (w6.heap[w.heap.size + 1]? = some (.cells #[.bool (sBar (dataF F now st 0) (isF F now st 0)).1, .bool (sBar (dataF F now st 0) (isF F now st 0)).2.1, .bool (sBar (dataF F now st 0) (isF F now st 0)).2.2.1, .bool (sBar (dataF F now st 0) (isF F now st 0)).2.2.2, .bool false, .bool (sLamps (dataF F now st 1) (isF F now st 1)), .bool (sObst (dataF F now st 2) (isF F now st 2)), .int .i64 (sMode (dataF F now st 3) (isF F now st 3)), .bool false, .bool false, .int .i64 0, .slice none 0 0] 36 (0, 0))) := ⟨by rw [hw6]; simpa using blk_set (HI5b.out) 7 (.int .i64 (sMode (dataF F now st 3) (isF F now st 3)))⟩
    have L6 := Aside0.mk (L5b.out.only2 O6.out HNE.out.1 HNE.out.2.2)
    have HX6 := Aside0.mk (heap_only O6.out HNE.out.2.1 HX5b.out)
    have HA6 := Aside0.mk (heap_only O6.out (by omega) HA5b.out)
    have B6 := bonly B5b O6.out (by omega)
    rw [← hw6]
    clear hw6 O6
    clear q7 f7 B5 L5 HA5 HI5 HX5 B5b L5b HA5b HI5b HX5b
    go_wp2_with fail
    refine (Fresh_calls w6 L6.out HN.out 4).mono ?_
    rintro e w6a ⟨v6a, rfl, hR, hb⟩
    obtain ⟨A6a, c6a, rfl, hc6a, hC6a⟩ := Kd.R_reads hR
    have B6a := Aside0.mk (below_thenB B6.out hb B6.out.size)
    have L6a := Aside0.mk (L6.out.below hb)
    have HA6a := Aside0.mk (heap_below ⟨hb⟩ HA6.out)
    have HI6a := Aside0.mk (heap_below ⟨hb⟩ HI6.out)
    have HX6a := Aside0.mk (heap_below ⟨hb⟩ HX6.out)
    clear hR hb
    go_wp2_with fail
    refine (sensor_Power.calls A6a c6a _ _ _ _ w6a hC6a hc6a (sPower_eq _ _)).mono ?_
    rintro e w6b ⟨rfl, hb⟩
    replace hb := hb.below
    have B6b := Aside0.mk (below_thenB B6a.out hb B6a.out.size)
    have L6b := Aside0.mk (L6a.out.below hb)
    have HA6b := Aside0.mk (heap_below ⟨hb⟩ HA6a.out)
    have HI6b := Aside0.mk (heap_below ⟨hb⟩ HI6a.out)
    have HX6b := Aside0.mk (heap_below ⟨hb⟩ HX6a.out)
    clear hb hC6a hc6a B6a L6a HA6a HI6a HX6a
    have q8 : World.cell? w6b ⟨w.heap.size + 1, 8, none⟩ = some (.bool false) := cell_of_heap HI6b.out 8
    have f8 := frozen_of_heap HI6b.out 8
    have q9 : World.cell? w6b ⟨w.heap.size + 1, 9, none⟩ = some (.bool false) := cell_of_heap HI6b.out 9
    have f9 := frozen_of_heap HI6b.out 9
    go_upto_region 10 with fail
    obtain ⟨w7, hw7⟩ : ∃ w7, w7 = ((w6b.setCell ⟨w.heap.size + 1, 8, none⟩ (.bool (sPower (dataF F now st 4) (isF F now st 4)).1)).setCell ⟨w.heap.size + 1, 9, none⟩ (.bool (sPower (dataF F now st 4) (isF F now st 4)).2)) := ⟨_, rfl⟩
    have O7 : Aside0 (Only (w.heap.size + 1) w6b w7) := ⟨by rw [hw7]; exact ((set_only _ _ _ _).trans (set_only _ _ _ _))⟩
    have HI7 : Aside0 (w7.heap[w.heap.size + 1]? = some (.cells #[.bool (sBar (dataF F now st 0) (isF F now st 0)).1, .bool (sBar (dataF F now st 0) (isF F now st 0)).2.1, .bool (sBar (dataF F now st 0) (isF F now st 0)).2.2.1, .bool (sBar (dataF F now st 0) (isF F now st 0)).2.2.2, .bool false, .bool (sLamps (dataF F now st 1) (isF F now st 1)), .bool (sObst (dataF F now st 2) (isF F now st 2)), .int .i64 (sMode (dataF F now st 3) (isF F now st 3)), .bool (sPower (dataF F now st 4) (isF F now st 4)).1, .bool (sPower (dataF F now st 4) (isF F now st 4)).2, .int .i64 0, .slice none 0 0] 36 (0, 0))) := ⟨by rw [hw7]; simpa using blk_set (blk_set (HI6b.out) 8 (.bool (sPower (dataF F now st 4) (isF F now st 4)).1)) 9 (.bool (sPower (dataF F now st 4) (isF F now st 4)).2)⟩
    have L7 := Aside0.mk (L6b.out.only2 O7.out HNE.out.1 HNE.out.2.2)
    have HX7 := Aside0.mk (heap_only O7.out HNE.out.2.1 HX6b.out)
    have HA7 := Aside0.mk (heap_only O7.out (by omega) HA6b.out)
    have B7 := bonly B6b O7.out (by omega)
    rw [← hw7]
    clear hw7 O7
    clear q8 f8 q9 f9 B6 L6 HA6 HI6 HX6 B6b L6b HA6b HI6b HX6b
    go_wp2_with fail
    refine (Fresh_calls w7 L7.out HN.out 5).mono ?_
    rintro e w7a ⟨v7a, rfl, hR, hb⟩
    obtain ⟨A7a, c7a, rfl, hc7a, hC7a⟩ := Kd.R_reads hR
    have B7a := Aside0.mk (below_thenB B7.out hb B7.out.size)
    have L7a := Aside0.mk (L7.out.below hb)
    have HA7a := Aside0.mk (heap_below ⟨hb⟩ HA7.out)
    have HI7a := Aside0.mk (heap_below ⟨hb⟩ HI7.out)
    have HX7a := Aside0.mk (heap_below ⟨hb⟩ HX7.out)
    clear hR hb
    have k1 : World.cell? w7a ⟨x, 1, none⟩ = some (.int .i64 n) := cell_of_heap HX7a.out 1
    go_wp2_with fail
    refine (sensor_Routes.calls A7a c7a _ _ (n : Int) _ w7a hC7a hc7a (sRoutes_eq _ _ _)).mono ?_
    rintro e w7b ⟨rfl, hb⟩
    have B7b := Aside0.mk (below_thenB B7a.out hb B7a.out.size)
    have L7b := Aside0.mk (L7a.out.below hb)
    have HA7b := Aside0.mk (heap_below ⟨hb⟩ HA7a.out)
    have HI7b := Aside0.mk (heap_below ⟨hb⟩ HI7a.out)
    have HX7b := Aside0.mk (heap_below ⟨hb⟩ HX7a.out)
    clear hb hC7a hc7a B7a L7a HA7a HI7a HX7a
    have q10 : World.cell? w7b ⟨w.heap.size + 1, 10, none⟩ = some (.int .i64 0) := cell_of_heap HI7b.out 10
    have f10 := frozen_of_heap HI7b.out 10
    clear k1
    go_upto_region 12 with fail
    obtain ⟨w8, hw8⟩ : ∃ w8, w8 = (w7b.setCell ⟨w.heap.size + 1, 10, none⟩ (.int .i64 (sRoutes (dataF F now st 5) (isF F now st 5) n))) := ⟨_, rfl⟩
    have O8 : Aside0 (Only (w.heap.size + 1) w7b w8) := ⟨by rw [hw8]; exact (set_only _ _ _ _)⟩
    have HI8 : Aside0 (w8.heap[w.heap.size + 1]? = some (.cells #[.bool (sBar (dataF F now st 0) (isF F now st 0)).1, .bool (sBar (dataF F now st 0) (isF F now st 0)).2.1, .bool (sBar (dataF F now st 0) (isF F now st 0)).2.2.1, .bool (sBar (dataF F now st 0) (isF F now st 0)).2.2.2, .bool false, .bool (sLamps (dataF F now st 1) (isF F now st 1)), .bool (sObst (dataF F now st 2) (isF F now st 2)), .int .i64 (sMode (dataF F now st 3) (isF F now st 3)), .bool (sPower (dataF F now st 4) (isF F now st 4)).1, .bool (sPower (dataF F now st 4) (isF F now st 4)).2, .int .i64 (sRoutes (dataF F now st 5) (isF F now st 5) n), .slice none 0 0] 36 (0, 0))) := ⟨by rw [hw8]; simpa using blk_set (HI7b.out) 10 (.int .i64 (sRoutes (dataF F now st 5) (isF F now st 5) n))⟩
    have L8 := Aside0.mk (L7b.out.only2 O8.out HNE.out.1 HNE.out.2.2)
    have HX8 := Aside0.mk (heap_only O8.out HNE.out.2.1 HX7b.out)
    have HA8 := Aside0.mk (heap_only O8.out (by omega) HA7b.out)
    have B8 := bonly B7b O8.out (by omega)
    rw [← hw8]
    clear hw8 O8
    clear q10 f10 B7 L7 HA7 HI7 HX7 B7b L7b HA7b HI7b HX7b
    have k1 : World.cell? w8 ⟨x, 1, none⟩ = some (.int .i64 n) := cell_of_heap HX8.out 1
    go_wp2_with fail
    clear k1
    go_loopw [78] (fun i W => ∃ (k : Nat) (v : Value), k ≤ n ∧ i = .int .i64 k ∧ Aside0 (LK W g F now (fun k => ok k ∧ k < w.heap.size) st) ∧ Aside0 (W.heap[x]? = some (.cells #[.pointer (some ⟨g, 0, none⟩), .int .i64 n] 58 (0, 0))) ∧ Aside0 (W.heap[w.heap.size]? = some (.cells #[.bool false, .bool false, .bool false, .bool false, .bool false, .bool false, .bool false, .int .i64 0, .bool false, .bool false, .int .i64 0, .slice none 0 0] 36 (0, 0))) ∧ Aside0 (Below w.heap.size w W) ∧ Aside0 (W.heap[w.heap.size + 1]? = some (.cells #[.bool (sBar (dataF F now st 0) (isF F now st 0)).1, .bool (sBar (dataF F now st 0) (isF F now st 0)).2.1, .bool (sBar (dataF F now st 0) (isF F now st 0)).2.2.1, .bool (sBar (dataF F now st 0) (isF F now st 0)).2.2.2, .bool false, .bool (sLamps (dataF F now st 1) (isF F now st 1)), .bool (sObst (dataF F now st 2) (isF F now st 2)), .int .i64 (sMode (dataF F now st 3) (isF F now st 3)), .bool (sPower (dataF F now st 4) (isF F now st 4)).1, .bool (sPower (dataF F now st 4) (isF F now st 4)).2, .int .i64 (sRoutes (dataF F now st 5) (isF F now st 5) n), v] 36 (0, 0))) ∧ Aside0 (Kd.R k48 48 W w.heap.size (fun k => w.heap.size + 2 ≤ k) v (tracksOf (dataF F now st) (isF F now st) k))) (fun i _ => n - (intOf i).toNat)
    case atStart => exact ⟨0, _, by omega, rfl, L8, HX8, HA8, B8, HI8, ⟨Kd.R_nil _ _ _ _ _⟩⟩
    case round =>
      obtain ⟨k, v, hk, rfl, LR, HXR, HAR, BR, HIR, RR⟩ := hrel
      obtain ⟨Av, cv, rfl, hcv, -⟩ := Kd.R_reads RR.out
      by_cases hlt : k < n
      · have dk : decide (k < n) = true := decide_eq_true hlt
        have HW8 := Aside0.mk (show wrap64 (8 + (k : Int)) = 8 + k by have := HK.out; unfold wrap64; omega)
        have HW9 := Aside0.mk (show IntKind.i64.wrap (8 + (k : Int)) = 8 + k by have := HW8.out; unfold wrap64 at this; rw [IntKind.wrap_i64]; exact this)
        have hq11 : World.cell? wr ⟨w.heap.size + 1, 11, none⟩ = some (.slice Av (tracksOf (dataF F now st) (isF F now st) k).length cv) := cell_of_heap HIR.out 11
        obtain ⟨s, hs⟩ : ∃ s, s = sCnt (dataF F now st (8 + (k : Int))) (isF F now st (8 + (k : Int))) := ⟨_, rfl⟩
        have HS := Aside0.mk hs
        clear hs
        go_upto_region 15 with fail
        refine wp_region_last_drew (S := (fun W => W.cell? ⟨w.heap.size + 1, 11, none⟩ = some (.slice Av (tracksOf (dataF F now st) (isF F now st) k).length cv))) (ds := [12]) (by kernel_rfl) ?_ (fun hHeld => ?_)
        · exact hq11
        refine wpAnyLast_take (i := 0) (oi := { dst := some 81, op := Go.Op.fieldAddr 36 (Go.Operand.tmp 3) 8, type := 0, pos := "inputs.go:52", after := #[], guard := none }) (v := ?vz0) rfl (by kernel_rfl) (by kernel_rfl) (by kernel_rfl) (by kernel_rfl) (by kernel_rfl) (fun _ _ _ h => h) (Or.inl ⟨by rfl, ?yz0⟩) (by assumption) ?rz0
        case yz0 => (((intro w hSw; (try dsimp only at hSw); go_simp) <;> with_reducible rfl))
        try simp only [put_]
        refine wpAnyLast_take (i := 1) (oi := { dst := some 82, op := Go.Op.load 34 (Go.Operand.tmp 81), type := 34, pos := "inputs.go:52", after := #[{ on := 0, ground := Go.Ground.data }], guard := none }) (v := ?vz1) rfl (by kernel_rfl) (by kernel_rfl) (by kernel_rfl) (by kernel_rfl) (by kernel_rfl) (fun _ _ _ h => h) (Or.inl ⟨by rfl, ?yz1⟩) (by assumption) ?rz1
        case yz1 => (((intro w hSw; (try dsimp only at hSw); go_simp) <;> with_reducible rfl))
        try simp only [put_]
        refine wpAnyLast_take (i := 2) (oi := { dst := some 83, op := Go.Op.move (Go.Operand.tmp 4), type := 63, pos := "inputs.go:52", after := #[], guard := none }) (v := ?vz2) rfl (by kernel_rfl) (by kernel_rfl) (by kernel_rfl) (by kernel_rfl) (by kernel_rfl) (fun _ _ _ h => h) (Or.inl ⟨by rfl, ?yz2⟩) (by assumption) ?rz2
        case yz2 => (((intro w hSw; (try dsimp only at hSw); go_simp) <;> with_reducible rfl))
        try simp only [put_]
        refine wpAnyLast_take (i := 3) (oi := { dst := some 84, op := Go.Op.move (Go.Operand.tmp 8), type := 3, pos := "inputs.go:52", after := #[], guard := none }) (v := ?vz3) rfl (by kernel_rfl) (by kernel_rfl) (by kernel_rfl) (by kernel_rfl) (by kernel_rfl) (fun _ _ _ h => h) (Or.inl ⟨by rfl, ?yz3⟩) (by assumption) ?rz3
        case yz3 => (((intro w hSw; (try dsimp only at hSw); go_simp) <;> with_reducible rfl))
        try simp only [put_]
        refine wpAnyLast_take (i := 4) (oi := { dst := some 85, op := Go.Op.binOp Go.BinOp.add 3 (Go.Operand.const (Go.Value.int Go.IntKind.i64 8)) (Go.Operand.tmp 84) 3, type := 3, pos := "inputs.go:52", after := #[{ on := 3, ground := Go.Ground.data }], guard := none }) (v := ?vz4) rfl (by kernel_rfl) (by kernel_rfl) (by kernel_rfl) (by kernel_rfl) (by kernel_rfl) (fun _ _ _ h => h) (Or.inl ⟨by rfl, ?yz4⟩) (by assumption) ?rz4
        case yz4 => (have h8 := HW8.out; have h9 := HW9.out; ((intro w hSw; (try dsimp only at hSw); go_simp) <;> with_reducible rfl))
        try simp only [put_]
        refine wpAnyLast_ready (rs := [5]) (by kernel_rfl) (by simp) ?_
        refine AllReadyL.cons (o := { dst := some 86, op := Go.Op.call { callee := Go.Callee.value (Go.Operand.tmp 83), args := #[Go.Operand.tmp 85], argTypes := #[3] }, type := 65, pos := "inputs.go:52", after := #[{ on := 2, ground := Go.Ground.data }, { on := 4, ground := Go.Ground.data }], guard := none }) rfl (by decide) (fun K hK => ?kz5) AllReadyL.nil
        go_simp
        refine (Fresh_calls wr.drew (LR.out.below (below_drew (Below.refl _ _))) HN.out (8 + (k : Int))).mono ?_
        rintro e w15 ⟨v15, rfl, hR, hb⟩
        obtain ⟨A15, c15, rfl, hc15, hC15⟩ := Kd.R_reads hR
        replace hb := of_drew hb
        have B15 := Aside0.mk (below_thenB BR.out hb BR.out.size)
        have L15 := Aside0.mk (LR.out.below hb)
        have HA15 := Aside0.mk (heap_below ⟨hb⟩ HAR.out)
        have HI15 := Aside0.mk (heap_below ⟨hb⟩ HIR.out)
        have HX15 := Aside0.mk (heap_below ⟨hb⟩ HXR.out)
        clear hR
        go_simp
        refine hK.out _ _ ?_ (fun hHeld => ?_)
        · exact pw_cell_below hb hq11
        clear hK K
        try simp only [put_]
        refine wpAnyLast_take (i := 6) (oi := { dst := some 87, op := Go.Op.extract (Go.Operand.tmp 86) 0, type := 44, pos := "inputs.go:52", after := #[{ on := 5, ground := Go.Ground.data }], guard := none }) (v := ?vz6) rfl (by kernel_rfl) (by kernel_rfl) (by kernel_rfl) (by kernel_rfl) (by kernel_rfl) (fun _ _ _ h => h) (Or.inl ⟨by rfl, ?yz6⟩) (by assumption) ?rz6
        case yz6 => (((intro w hSw; (try dsimp only at hSw); go_simp) <;> with_reducible rfl))
        try simp only [put_]
        refine wpAnyLast_take (i := 7) (oi := { dst := some 88, op := Go.Op.extract (Go.Operand.tmp 86) 1, type := 4, pos := "inputs.go:52", after := #[{ on := 5, ground := Go.Ground.data }], guard := none }) (v := ?vz7) rfl (by kernel_rfl) (by kernel_rfl) (by kernel_rfl) (by kernel_rfl) (by kernel_rfl) (fun _ _ _ h => h) (Or.inl ⟨by rfl, ?yz7⟩) (by assumption) ?rz7
        case yz7 => (((intro w hSw; (try dsimp only at hSw); go_simp) <;> with_reducible rfl))
        try simp only [put_]
        refine wpAnyLast_ready (rs := [8]) (by kernel_rfl) (by simp) ?_
        refine AllReadyL.cons (o := { dst := some 89, op := Go.Op.call { callee := Go.Callee.value (Go.Operand.func 35), args := #[Go.Operand.tmp 87, Go.Operand.tmp 88], argTypes := #[44, 4] }, type := 48, pos := "inputs.go:52", after := #[{ on := 6, ground := Go.Ground.data }, { on := 7, ground := Go.Ground.data }, { on := 5, ground := Go.Ground.chain }], guard := none }) rfl (by decide) (fun K hK => ?kz8) AllReadyL.nil
        go_simp
        refine (sensor_Counts.calls A15 c15 _ _ s.f0 s.f1 s.f2 s.f3 s.f4 w15 hC15 hc15 (by rw [HS.out]; exact sCnt_eq _ _)).mono ?_
        rintro e w16 ⟨rfl, hb2⟩
        have B16 := Aside0.mk (below_thenB B15.out hb2 B15.out.size)
        have L16 := Aside0.mk (L15.out.below hb2)
        have HA16 := Aside0.mk (heap_below ⟨hb2⟩ HA15.out)
        have HI16 := Aside0.mk (heap_below ⟨hb2⟩ HI15.out)
        have HX16 := Aside0.mk (heap_below ⟨hb2⟩ HX15.out)
        go_simp
        refine hK.out _ _ ?_ (fun hHeld => ?_)
        · exact pw_cell_below hb2 (pw_cell_below hb hq11)
        clear hK K
        try simp only [put_]
        refine wpAnyLast_ready (rs := [9]) (by kernel_rfl) (by simp) ?_
        refine AllReadyL.cons (o := { dst := some 90, op := Go.Op.buildSlice 34 1 #[(0, Go.Operand.tmp 89)], type := 34, pos := "inputs.go:52", after := #[{ on := 8, ground := Go.Ground.data }], guard := none }) rfl (by decide) (fun K hK => ?kz9) AllReadyL.nil
        go_simp
        refine hK.out _ _ ?_ (fun hHeld => ?_)
        · exact cell_of_heap (heap_below ⟨below_alloc (Below.refl _ _) _⟩ HI16.out) 11
        clear hK K
        try simp only [put_]
        refine wpAnyLast_ready (rs := [10]) (by kernel_rfl) (by simp) ?_
        refine AllReadyL.cons (o := { dst := some 91, op := Go.Op.call { callee := Go.Callee.builtin Go.Builtin.append, args := #[Go.Operand.tmp 82, Go.Operand.tmp 90], argTypes := #[34, 34] }, type := 34, pos := "inputs.go:52", after := #[{ on := 1, ground := Go.Ground.data }, { on := 9, ground := Go.Ground.data }, { on := 8, ground := Go.Ground.chain }], guard := none }) rfl (by decide) (fun K hK => ?kz10) AllReadyL.nil
        refine Kd.R_append_rows_step k48 (Rr := k48.K (w16.alloc (.cells #[.bool s.f0, .int .i64 s.f1, .int .i64 s.f2, .int .i64 s.f3, .int .i64 s.f4] 48))) (w0 := w) w.heap.size rfl (.tmp 82) (.tmp 90) 34 48 (.agg #[.bool false, .int .i64 0, .int .i64 0, .int .i64 0, .int .i64 0]) 40 rfl Tryd.underlying34 info48 rfl (by decide) (by omega) (.slice Av (tracksOf (dataF F now st) (isF F now st) k).length cv) (tracksOf (dataF F now st) (isF F now st) k) [s] (some ⟨w16.heap.size, 0, none⟩) 1 1 (fun k => w.heap.size + 2 ≤ k) (fun _ => False) rfl rfl ?aOz ?aRz ?aKz (fun _ h => h.elim) ?aFz ?aBz ?aSz ?aLz ?_
        case aOz => exact Kd.R_below RR.out (below_alloc (below_thenB hb hb2 hb.size) _)
        case aRz => exact C_cnt w16 s
        case aKz => intro x cs hx; rw [k48_open hx]; exact k48_mkM _ _ _ _
        case aFz => intro j hj; have := heap_lt HI16.out; simp at hj; omega
        case aBz => exact below_alloc B16.out _
        case aSz => have := B16.out.size; simp; omega
        case aLz => rw [tracksOf_len]; have := HK.out; omega
        intro v17 w17 ho hbw hg hat
        have hrow : ∀ i, i < w.heap.size + 2 → some i ≠ (Value.slice Av (tracksOf (dataF F now st) (isF F now st) k).length cv).ownBlock := fun i hi he => by have h1 : w.heap.size + 2 ≤ i := RR.out.1 i he.symm; omega
        have ba : Below w16.heap.size w16 (w16.alloc (.cells #[.bool s.f0, .int .i64 s.f1, .int .i64 s.f2, .int .i64 s.f3, .int .i64 s.f4] 48)) := below_alloc (Below.refl _ _) _
        have La := L16.out.below ba
        have HXa := heap_below ⟨ba⟩ HX16.out
        have HAa := heap_below ⟨ba⟩ HA16.out
        have HIa := heap_below ⟨ba⟩ HI16.out
        have L17 := Aside0.mk (La.step (hg.block g La.lt (hrow g (by have := HLG.out; omega))) (fun i hi hlt => hg.block i hlt (hrow i (by have := hi.2; omega))))
        have HX17 := Aside0.mk ((hg.block x (heap_lt HXa) (hrow x (by have := HLX.out; omega))).trans HXa)
        have HA17 := Aside0.mk ((hg.block _ (heap_lt HAa) (hrow _ (by omega))).trans HAa)
        have HI17 := Aside0.mk ((hg.block _ (heap_lt HIa) (hrow _ (by omega))).trans HIa)
        have B17 := Aside0.mk hbw
        have R17 : Aside0 (Kd.R k48 48 w17 w.heap.size (fun k => w.heap.size + 2 ≤ k) v17 (tracksOf (dataF F now st) (isF F now st) (k + 1))) := ⟨by rw [tracksOf_succ, ← HS.out]; exact ho⟩
        obtain ⟨A17, c17, rfl, -, -⟩ := Kd.R_reads R17.out
        clear hat ho hg hrow ba La HXa HAa HIa hbw
        refine hK.out _ _ ?_ (fun hHeld => ?_)
        · exact cell_of_heap HI17.out 11
        clear hK K
        try simp only [put_]
        refine wpAnyLast_take (i := 11) (oi := { dst := some 92, op := Go.Op.fieldAddr 36 (Go.Operand.tmp 3) 8, type := 0, pos := "inputs.go:52", after := #[{ on := 0, ground := Go.Ground.phase }, { on := 1, ground := Go.Ground.phase }, { on := 2, ground := Go.Ground.phase }, { on := 3, ground := Go.Ground.phase }, { on := 4, ground := Go.Ground.phase }, { on := 5, ground := Go.Ground.phase }, { on := 6, ground := Go.Ground.phase }, { on := 7, ground := Go.Ground.phase }, { on := 8, ground := Go.Ground.phase }, { on := 9, ground := Go.Ground.phase }, { on := 10, ground := Go.Ground.phase }], guard := none }) (v := ?vz11) rfl (by kernel_rfl) (by kernel_rfl) (by kernel_rfl) (by kernel_rfl) (by kernel_rfl) (fun _ _ _ h => h) (Or.inl ⟨by rfl, ?yz11⟩) (by assumption) ?rz11
        case yz11 => (((intro w hSw; (try dsimp only at hSw); go_simp) <;> with_reducible rfl))
        try simp only [put_]
        refine wpAnyLast_ready (rs := [12]) (by kernel_rfl) (by simp) ?_
        refine AllReadyL.cons_last (o := { dst := none, op := Go.Op.store 34 (Go.Operand.tmp 92) (Go.Operand.tmp 91), type := 0, pos := "inputs.go:52", after := #[{ on := 11, ground := Go.Ground.data }, { on := 10, ground := Go.Ground.data }, { on := 10, ground := Go.Ground.chain }, { on := 0, ground := Go.Ground.phase }, { on := 1, ground := Go.Ground.phase }, { on := 2, ground := Go.Ground.phase }, { on := 3, ground := Go.Ground.phase }, { on := 4, ground := Go.Ground.phase }, { on := 5, ground := Go.Ground.phase }, { on := 6, ground := Go.Ground.phase }, { on := 7, ground := Go.Ground.phase }, { on := 8, ground := Go.Ground.phase }, { on := 9, ground := Go.Ground.phase }, { on := 10, ground := Go.Ground.phase }], guard := none }) rfl (by decide) (fun K hK => ?kz12) AllReadyL.nil
        have q11 : World.cell? w17 ⟨w.heap.size + 1, 11, none⟩ = some (.slice Av (tracksOf (dataF F now st) (isF F now st) k).length cv) := cell_of_heap HI17.out 11
        have f11 := frozen_of_heap HI17.out 11
        go_simp
        refine hK.out _ _ ?_
        clear hK K
        try simp only [put_]
        refine wpAnyLast_done (by kernel_rfl) ?_ _
        have hk1 : (k : Int) + 1 ≤ 8 := by have := HK.out; omega
        go_wp2_with fail
        go_roundw
        case rel => exact ⟨k + 1, _, hlt, rfl, ⟨L17.out.only2 (set_only _ _ _ _) HNE.out.1 HNE.out.2.2⟩, ⟨heap_only (set_only _ _ _ _) HNE.out.2.1 HX17.out⟩, ⟨heap_only (set_only _ _ _ _) (by omega) HA17.out⟩, bonly B17 (set_only _ _ _ _) (by omega), ⟨by simpa using blk_set HI17.out 11 (.slice A17 (tracksOf (dataF F now st) (isF F now st) (k + 1)).length c17)⟩, ⟨Kd.R_far R17.out (fun j hj => by have h1 : w.heap.size + 2 ≤ j := hj; show j ≠ w.heap.size + 1; omega) _⟩⟩
        case measure => simp [intOf]; omega
      · have dk : decide (k < n) = false := decide_eq_false hlt
        have hkn : n = k := by omega
        subst hkn
        have q0 : World.cell? wr ⟨w.heap.size + 1, 0, none⟩ = some (.bool (sBar (dataF F now st 0) (isF F now st 0)).1) := cell_of_heap HIR.out 0
        have r0 : World.cell? wr ⟨w.heap.size, 0, none⟩ = some (.bool false) := cell_of_heap HAR.out 0
        have z0 := frozen_of_heap HAR.out 0
        have q1 : World.cell? wr ⟨w.heap.size + 1, 1, none⟩ = some (.bool (sBar (dataF F now st 0) (isF F now st 0)).2.1) := cell_of_heap HIR.out 1
        have r1 : World.cell? wr ⟨w.heap.size, 1, none⟩ = some (.bool false) := cell_of_heap HAR.out 1
        have z1 := frozen_of_heap HAR.out 1
        have q2 : World.cell? wr ⟨w.heap.size + 1, 2, none⟩ = some (.bool (sBar (dataF F now st 0) (isF F now st 0)).2.2.1) := cell_of_heap HIR.out 2
        have r2 : World.cell? wr ⟨w.heap.size, 2, none⟩ = some (.bool false) := cell_of_heap HAR.out 2
        have z2 := frozen_of_heap HAR.out 2
        have q3 : World.cell? wr ⟨w.heap.size + 1, 3, none⟩ = some (.bool (sBar (dataF F now st 0) (isF F now st 0)).2.2.2) := cell_of_heap HIR.out 3
        have r3 : World.cell? wr ⟨w.heap.size, 3, none⟩ = some (.bool false) := cell_of_heap HAR.out 3
        have z3 := frozen_of_heap HAR.out 3
        have q4 : World.cell? wr ⟨w.heap.size + 1, 4, none⟩ = some (.bool false) := cell_of_heap HIR.out 4
        have r4 : World.cell? wr ⟨w.heap.size, 4, none⟩ = some (.bool false) := cell_of_heap HAR.out 4
        have z4 := frozen_of_heap HAR.out 4
        have q5 : World.cell? wr ⟨w.heap.size + 1, 5, none⟩ = some (.bool (sLamps (dataF F now st 1) (isF F now st 1))) := cell_of_heap HIR.out 5
        have r5 : World.cell? wr ⟨w.heap.size, 5, none⟩ = some (.bool false) := cell_of_heap HAR.out 5
        have z5 := frozen_of_heap HAR.out 5
        have q6 : World.cell? wr ⟨w.heap.size + 1, 6, none⟩ = some (.bool (sObst (dataF F now st 2) (isF F now st 2))) := cell_of_heap HIR.out 6
        have r6 : World.cell? wr ⟨w.heap.size, 6, none⟩ = some (.bool false) := cell_of_heap HAR.out 6
        have z6 := frozen_of_heap HAR.out 6
        have q7 : World.cell? wr ⟨w.heap.size + 1, 7, none⟩ = some (.int .i64 (sMode (dataF F now st 3) (isF F now st 3))) := cell_of_heap HIR.out 7
        have r7 : World.cell? wr ⟨w.heap.size, 7, none⟩ = some (.int .i64 0) := cell_of_heap HAR.out 7
        have z7 := frozen_of_heap HAR.out 7
        have q8 : World.cell? wr ⟨w.heap.size + 1, 8, none⟩ = some (.bool (sPower (dataF F now st 4) (isF F now st 4)).1) := cell_of_heap HIR.out 8
        have r8 : World.cell? wr ⟨w.heap.size, 8, none⟩ = some (.bool false) := cell_of_heap HAR.out 8
        have z8 := frozen_of_heap HAR.out 8
        have q9 : World.cell? wr ⟨w.heap.size + 1, 9, none⟩ = some (.bool (sPower (dataF F now st 4) (isF F now st 4)).2) := cell_of_heap HIR.out 9
        have r9 : World.cell? wr ⟨w.heap.size, 9, none⟩ = some (.bool false) := cell_of_heap HAR.out 9
        have z9 := frozen_of_heap HAR.out 9
        have q10 : World.cell? wr ⟨w.heap.size + 1, 10, none⟩ = some (.int .i64 (sRoutes (dataF F now st 5) (isF F now st 5) n)) := cell_of_heap HIR.out 10
        have r10 : World.cell? wr ⟨w.heap.size, 10, none⟩ = some (.int .i64 0) := cell_of_heap HAR.out 10
        have z10 := frozen_of_heap HAR.out 10
        have q11 : World.cell? wr ⟨w.heap.size + 1, 11, none⟩ = some (.slice Av (tracksOf (dataF F now st) (isF F now st) n).length cv) := cell_of_heap HIR.out 11
        have r11 : World.cell? wr ⟨w.heap.size, 11, none⟩ = some (.slice none 0 0) := cell_of_heap HAR.out 11
        have z11 := frozen_of_heap HAR.out 11
        go_wp2_with fail
        obtain ⟨w9, hw9⟩ : ∃ w9, w9 = ((((((((((((wr.setCell ⟨w.heap.size, 0, none⟩ (.bool (sBar (dataF F now st 0) (isF F now st 0)).1)).setCell ⟨w.heap.size, 1, none⟩ (.bool (sBar (dataF F now st 0) (isF F now st 0)).2.1)).setCell ⟨w.heap.size, 2, none⟩ (.bool (sBar (dataF F now st 0) (isF F now st 0)).2.2.1)).setCell ⟨w.heap.size, 3, none⟩ (.bool (sBar (dataF F now st 0) (isF F now st 0)).2.2.2)).setCell ⟨w.heap.size, 4, none⟩ (.bool false)).setCell ⟨w.heap.size, 5, none⟩ (.bool (sLamps (dataF F now st 1) (isF F now st 1)))).setCell ⟨w.heap.size, 6, none⟩ (.bool (sObst (dataF F now st 2) (isF F now st 2)))).setCell ⟨w.heap.size, 7, none⟩ (.int .i64 (sMode (dataF F now st 3) (isF F now st 3)))).setCell ⟨w.heap.size, 8, none⟩ (.bool (sPower (dataF F now st 4) (isF F now st 4)).1)).setCell ⟨w.heap.size, 9, none⟩ (.bool (sPower (dataF F now st 4) (isF F now st 4)).2)).setCell ⟨w.heap.size, 10, none⟩ (.int .i64 (sRoutes (dataF F now st 5) (isF F now st 5) n))).setCell ⟨w.heap.size, 11, none⟩ (.slice Av (tracksOf (dataF F now st) (isF F now st) n).length cv)) := ⟨_, rfl⟩
        have H9 : w9.heap[w.heap.size]? = some (.cells #[.bool (sBar (dataF F now st 0) (isF F now st 0)).1, .bool (sBar (dataF F now st 0) (isF F now st 0)).2.1, .bool (sBar (dataF F now st 0) (isF F now st 0)).2.2.1, .bool (sBar (dataF F now st 0) (isF F now st 0)).2.2.2, .bool false, .bool (sLamps (dataF F now st 1) (isF F now st 1)), .bool (sObst (dataF F now st 2) (isF F now st 2)), .int .i64 (sMode (dataF F now st 3) (isF F now st 3)), .bool (sPower (dataF F now st 4) (isF F now st 4)).1, .bool (sPower (dataF F now st 4) (isF F now st 4)).2, .int .i64 (sRoutes (dataF F now st 5) (isF F now st 5) n), .slice Av (tracksOf (dataF F now st) (isF F now st) n).length cv] 36 (0, 0)) := by rw [hw9]; simpa using blk_set (blk_set (blk_set (blk_set (blk_set (blk_set (blk_set (blk_set (blk_set (blk_set (blk_set (blk_set (HAR.out) 0 (.bool (sBar (dataF F now st 0) (isF F now st 0)).1)) 1 (.bool (sBar (dataF F now st 0) (isF F now st 0)).2.1)) 2 (.bool (sBar (dataF F now st 0) (isF F now st 0)).2.2.1)) 3 (.bool (sBar (dataF F now st 0) (isF F now st 0)).2.2.2)) 4 (.bool false)) 5 (.bool (sLamps (dataF F now st 1) (isF F now st 1)))) 6 (.bool (sObst (dataF F now st 2) (isF F now st 2)))) 7 (.int .i64 (sMode (dataF F now st 3) (isF F now st 3)))) 8 (.bool (sPower (dataF F now st 4) (isF F now st 4)).1)) 9 (.bool (sPower (dataF F now st 4) (isF F now st 4)).2)) 10 (.int .i64 (sRoutes (dataF F now st 5) (isF F now st 5) n))) 11 (.slice Av (tracksOf (dataF F now st) (isF F now st) n).length cv)
        have O9 : Only w.heap.size wr w9 := by rw [hw9]; exact ((((((((((((set_only _ _ _ _).trans (set_only _ _ _ _)).trans (set_only _ _ _ _)).trans (set_only _ _ _ _)).trans (set_only _ _ _ _)).trans (set_only _ _ _ _)).trans (set_only _ _ _ _)).trans (set_only _ _ _ _)).trans (set_only _ _ _ _)).trans (set_only _ _ _ _)).trans (set_only _ _ _ _)).trans (set_only _ _ _ _))
        rw [← hw9]
        clear hw9 q0 r0 z0 q1 r1 z1 q2 r2 z2 q3 r3 z3 q4 r4 z4 q5 r5 z5 q6 r6 z6 q7 r7 z7 q8 r8 z8 q9 r9 z9 q10 r10 z10 q11 r11 z11
        have r0 : World.cell? w9 ⟨w.heap.size, 0, none⟩ = some (.bool (sBar (dataF F now st 0) (isF F now st 0)).1) := cell_of_heap H9 0
        have r1 : World.cell? w9 ⟨w.heap.size, 1, none⟩ = some (.bool (sBar (dataF F now st 0) (isF F now st 0)).2.1) := cell_of_heap H9 1
        have r2 : World.cell? w9 ⟨w.heap.size, 2, none⟩ = some (.bool (sBar (dataF F now st 0) (isF F now st 0)).2.2.1) := cell_of_heap H9 2
        have r3 : World.cell? w9 ⟨w.heap.size, 3, none⟩ = some (.bool (sBar (dataF F now st 0) (isF F now st 0)).2.2.2) := cell_of_heap H9 3
        have r4 : World.cell? w9 ⟨w.heap.size, 4, none⟩ = some (.bool false) := cell_of_heap H9 4
        have r5 : World.cell? w9 ⟨w.heap.size, 5, none⟩ = some (.bool (sLamps (dataF F now st 1) (isF F now st 1))) := cell_of_heap H9 5
        have r6 : World.cell? w9 ⟨w.heap.size, 6, none⟩ = some (.bool (sObst (dataF F now st 2) (isF F now st 2))) := cell_of_heap H9 6
        have r7 : World.cell? w9 ⟨w.heap.size, 7, none⟩ = some (.int .i64 (sMode (dataF F now st 3) (isF F now st 3))) := cell_of_heap H9 7
        have r8 : World.cell? w9 ⟨w.heap.size, 8, none⟩ = some (.bool (sPower (dataF F now st 4) (isF F now st 4)).1) := cell_of_heap H9 8
        have r9 : World.cell? w9 ⟨w.heap.size, 9, none⟩ = some (.bool (sPower (dataF F now st 4) (isF F now st 4)).2) := cell_of_heap H9 9
        have r10 : World.cell? w9 ⟨w.heap.size, 10, none⟩ = some (.int .i64 (sRoutes (dataF F now st 5) (isF F now st 5) n)) := cell_of_heap H9 10
        have r11 : World.cell? w9 ⟨w.heap.size, 11, none⟩ = some (.slice Av (tracksOf (dataF F now st) (isF F now st) n).length cv) := cell_of_heap H9 11
        refine bodyPost_ret (v := .agg #[.bool (sBar (dataF F now st 0) (isF F now st 0)).1, .bool (sBar (dataF F now st 0) (isF F now st 0)).2.1, .bool (sBar (dataF F now st 0) (isF F now st 0)).2.2.1, .bool (sBar (dataF F now st 0) (isF F now st 0)).2.2.2, .bool false, .bool (sLamps (dataF F now st 1) (isF F now st 1)), .bool (sObst (dataF F now st 2) (isF F now st 2)), .int .i64 (sMode (dataF F now st 3) (isF F now st 3)), .bool (sPower (dataF F now st 4) (isF F now st 4)).1, .bool (sPower (dataF F now st 4) (isF F now st 4)).2, .int .i64 (sRoutes (dataF F now st 5) (isF F now st 5) n), .slice Av (tracksOf (dataF F now st) (isF F now st) n).length cv]) (by simp [results, Tryd.results16, go_sem, r0, r1, r2, r3, r4, r5, r6, r7, r8, r9, r10, r11]) rfl ⟨.slice Av (tracksOf (dataF F now st) (isF F now st) n).length cv, ?_, ?_, (bonly BR O9 (Nat.le_refl _)).out⟩
        · rw [HI.out]; unfold nowOf Inp.val; rw [HH.out]; rfl
        · rw [HI.out]; exact Kd.R_mono (Kd.R_step RR.out (fun j hj hl => O9.block j hl (by have h1 : w.heap.size + 2 ≤ j := hj; omega))) (fun _ _ => trivial)

  · rw [hh] at j0
    have HH := Aside0.mk hh
    clear hh
    go_upto_region 6 with fail
    obtain ⟨w3, hw3⟩ : ∃ w3, w3 = (w2.setCell ⟨w.heap.size + 1, 4, none⟩ (.bool ((atF F now st 0).age == 0))) := ⟨_, rfl⟩
    have O3 : Aside0 (Only (w.heap.size + 1) w2 w3) := ⟨by rw [hw3]; exact (set_only _ _ _ _)⟩
    have HI3 : Aside0 (w3.heap[w.heap.size + 1]? = some (.cells #[.bool (sBar (dataF F now st 0) (isF F now st 0)).1, .bool (sBar (dataF F now st 0) (isF F now st 0)).2.1, .bool (sBar (dataF F now st 0) (isF F now st 0)).2.2.1, .bool (sBar (dataF F now st 0) (isF F now st 0)).2.2.2, .bool ((atF F now st 0).age == 0), .bool false, .bool false, .int .i64 0, .bool false, .bool false, .int .i64 0, .slice none 0 0] 36 (0, 0))) := ⟨by rw [hw3]; simpa using blk_set (HI2.out) 4 (.bool ((atF F now st 0).age == 0))⟩
    have L3 := Aside0.mk (L2.out.only2 O3.out HNE.out.1 HNE.out.2.2)
    have HX3 := Aside0.mk (heap_only O3.out HNE.out.2.1 HX2.out)
    have HA3 := Aside0.mk (heap_only O3.out (by omega) HA2.out)
    have B3 := bonly B2 O3.out (by omega)
    rw [← hw3]
    clear hw3 O3
    clear j0 j2 q4 f4 B2 L2 HA2 HI2 HX2
    go_wp2_with fail
    refine (Fresh_calls w3 L3.out HN.out 1).mono ?_
    rintro e w3a ⟨v3a, rfl, hR, hb⟩
    obtain ⟨A3a, c3a, rfl, hc3a, hC3a⟩ := Kd.R_reads hR
    have B3a := Aside0.mk (below_thenB B3.out hb B3.out.size)
    have L3a := Aside0.mk (L3.out.below hb)
    have HA3a := Aside0.mk (heap_below ⟨hb⟩ HA3.out)
    have HI3a := Aside0.mk (heap_below ⟨hb⟩ HI3.out)
    have HX3a := Aside0.mk (heap_below ⟨hb⟩ HX3.out)
    clear hR hb
    go_wp2_with fail
    refine (sensor_Lamps.calls A3a c3a _ _ _ w3a hC3a hc3a (sLamps_eq _ _)).mono ?_
    rintro e w3b ⟨rfl, hb⟩
    replace hb := hb.below
    have B3b := Aside0.mk (below_thenB B3a.out hb B3a.out.size)
    have L3b := Aside0.mk (L3a.out.below hb)
    have HA3b := Aside0.mk (heap_below ⟨hb⟩ HA3a.out)
    have HI3b := Aside0.mk (heap_below ⟨hb⟩ HI3a.out)
    have HX3b := Aside0.mk (heap_below ⟨hb⟩ HX3a.out)
    clear hb hC3a hc3a B3a L3a HA3a HI3a HX3a
    have q5 : World.cell? w3b ⟨w.heap.size + 1, 5, none⟩ = some (.bool false) := cell_of_heap HI3b.out 5
    have f5 := frozen_of_heap HI3b.out 5
    go_upto_region 7 with fail
    obtain ⟨w4, hw4⟩ : ∃ w4, w4 = (w3b.setCell ⟨w.heap.size + 1, 5, none⟩ (.bool (sLamps (dataF F now st 1) (isF F now st 1)))) := ⟨_, rfl⟩
    have O4 : Aside0 (Only (w.heap.size + 1) w3b w4) := ⟨by rw [hw4]; exact (set_only _ _ _ _)⟩
    have HI4 : Aside0 (w4.heap[w.heap.size + 1]? = some (.cells #[.bool (sBar (dataF F now st 0) (isF F now st 0)).1, .bool (sBar (dataF F now st 0) (isF F now st 0)).2.1, .bool (sBar (dataF F now st 0) (isF F now st 0)).2.2.1, .bool (sBar (dataF F now st 0) (isF F now st 0)).2.2.2, .bool ((atF F now st 0).age == 0), .bool (sLamps (dataF F now st 1) (isF F now st 1)), .bool false, .int .i64 0, .bool false, .bool false, .int .i64 0, .slice none 0 0] 36 (0, 0))) := ⟨by rw [hw4]; simpa using blk_set (HI3b.out) 5 (.bool (sLamps (dataF F now st 1) (isF F now st 1)))⟩
    have L4 := Aside0.mk (L3b.out.only2 O4.out HNE.out.1 HNE.out.2.2)
    have HX4 := Aside0.mk (heap_only O4.out HNE.out.2.1 HX3b.out)
    have HA4 := Aside0.mk (heap_only O4.out (by omega) HA3b.out)
    have B4 := bonly B3b O4.out (by omega)
    rw [← hw4]
    clear hw4 O4
    clear q5 f5 B3 L3 HA3 HI3 HX3 B3b L3b HA3b HI3b HX3b
    go_wp2_with fail
    refine (Fresh_calls w4 L4.out HN.out 2).mono ?_
    rintro e w4a ⟨v4a, rfl, hR, hb⟩
    obtain ⟨A4a, c4a, rfl, hc4a, hC4a⟩ := Kd.R_reads hR
    have B4a := Aside0.mk (below_thenB B4.out hb B4.out.size)
    have L4a := Aside0.mk (L4.out.below hb)
    have HA4a := Aside0.mk (heap_below ⟨hb⟩ HA4.out)
    have HI4a := Aside0.mk (heap_below ⟨hb⟩ HI4.out)
    have HX4a := Aside0.mk (heap_below ⟨hb⟩ HX4.out)
    clear hR hb
    go_wp2_with fail
    refine (sensor_Obstacle.calls A4a c4a _ _ _ w4a hC4a hc4a (sObst_eq _ _)).mono ?_
    rintro e w4b ⟨rfl, hb⟩
    replace hb := hb.below
    have B4b := Aside0.mk (below_thenB B4a.out hb B4a.out.size)
    have L4b := Aside0.mk (L4a.out.below hb)
    have HA4b := Aside0.mk (heap_below ⟨hb⟩ HA4a.out)
    have HI4b := Aside0.mk (heap_below ⟨hb⟩ HI4a.out)
    have HX4b := Aside0.mk (heap_below ⟨hb⟩ HX4a.out)
    clear hb hC4a hc4a B4a L4a HA4a HI4a HX4a
    have q6 : World.cell? w4b ⟨w.heap.size + 1, 6, none⟩ = some (.bool false) := cell_of_heap HI4b.out 6
    have f6 := frozen_of_heap HI4b.out 6
    go_upto_region 8 with fail
    obtain ⟨w5, hw5⟩ : ∃ w5, w5 = (w4b.setCell ⟨w.heap.size + 1, 6, none⟩ (.bool (sObst (dataF F now st 2) (isF F now st 2)))) := ⟨_, rfl⟩
    have O5 : Aside0 (Only (w.heap.size + 1) w4b w5) := ⟨by rw [hw5]; exact (set_only _ _ _ _)⟩
    have HI5 : Aside0 (w5.heap[w.heap.size + 1]? = some (.cells #[.bool (sBar (dataF F now st 0) (isF F now st 0)).1, .bool (sBar (dataF F now st 0) (isF F now st 0)).2.1, .bool (sBar (dataF F now st 0) (isF F now st 0)).2.2.1, .bool (sBar (dataF F now st 0) (isF F now st 0)).2.2.2, .bool ((atF F now st 0).age == 0), .bool (sLamps (dataF F now st 1) (isF F now st 1)), .bool (sObst (dataF F now st 2) (isF F now st 2)), .int .i64 0, .bool false, .bool false, .int .i64 0, .slice none 0 0] 36 (0, 0))) := ⟨by rw [hw5]; simpa using blk_set (HI4b.out) 6 (.bool (sObst (dataF F now st 2) (isF F now st 2)))⟩
    have L5 := Aside0.mk (L4b.out.only2 O5.out HNE.out.1 HNE.out.2.2)
    have HX5 := Aside0.mk (heap_only O5.out HNE.out.2.1 HX4b.out)
    have HA5 := Aside0.mk (heap_only O5.out (by omega) HA4b.out)
    have B5 := bonly B4b O5.out (by omega)
    rw [← hw5]
    clear hw5 O5
    clear q6 f6 B4 L4 HA4 HI4 HX4 B4b L4b HA4b HI4b HX4b
    go_wp2_with fail
    refine (Fresh_calls w5 L5.out HN.out 3).mono ?_
    rintro e w5a ⟨v5a, rfl, hR, hb⟩
    obtain ⟨A5a, c5a, rfl, hc5a, hC5a⟩ := Kd.R_reads hR
    have B5a := Aside0.mk (below_thenB B5.out hb B5.out.size)
    have L5a := Aside0.mk (L5.out.below hb)
    have HA5a := Aside0.mk (heap_below ⟨hb⟩ HA5.out)
    have HI5a := Aside0.mk (heap_below ⟨hb⟩ HI5.out)
    have HX5a := Aside0.mk (heap_below ⟨hb⟩ HX5.out)
    clear hR hb
    go_wp2_with fail
    refine (sensor_Mode.calls A5a c5a _ _ _ w5a hC5a hc5a (sMode_eq _ _)).mono ?_
    rintro e w5b ⟨rfl, hb⟩
    replace hb := hb.below
    have B5b := Aside0.mk (below_thenB B5a.out hb B5a.out.size)
    have L5b := Aside0.mk (L5a.out.below hb)
    have HA5b := Aside0.mk (heap_below ⟨hb⟩ HA5a.out)
    have HI5b := Aside0.mk (heap_below ⟨hb⟩ HI5a.out)
    have HX5b := Aside0.mk (heap_below ⟨hb⟩ HX5a.out)
    clear hb hC5a hc5a B5a L5a HA5a HI5a HX5a
    have q7 : World.cell? w5b ⟨w.heap.size + 1, 7, none⟩ = some (.int .i64 0) := cell_of_heap HI5b.out 7
    have f7 := frozen_of_heap HI5b.out 7
    go_upto_region 9 with fail
    obtain ⟨w6, hw6⟩ : ∃ w6, w6 = (w5b.setCell ⟨w.heap.size + 1, 7, none⟩ (.int .i64 (sMode (dataF F now st 3) (isF F now st 3)))) := ⟨_, rfl⟩
    have O6 : Aside0 (Only (w.heap.size + 1) w5b w6) := ⟨by rw [hw6]; exact (set_only _ _ _ _)⟩
    have HI6 : Aside0 (w6.heap[w.heap.size + 1]? = some (.cells #[.bool (sBar (dataF F now st 0) (isF F now st 0)).1, .bool (sBar (dataF F now st 0) (isF F now st 0)).2.1, .bool (sBar (dataF F now st 0) (isF F now st 0)).2.2.1, .bool (sBar (dataF F now st 0) (isF F now st 0)).2.2.2, .bool ((atF F now st 0).age == 0), .bool (sLamps (dataF F now st 1) (isF F now st 1)), .bool (sObst (dataF F now st 2) (isF F now st 2)), .int .i64 (sMode (dataF F now st 3) (isF F now st 3)), .bool false, .bool false, .int .i64 0, .slice none 0 0] 36 (0, 0))) := ⟨by rw [hw6]; simpa using blk_set (HI5b.out) 7 (.int .i64 (sMode (dataF F now st 3) (isF F now st 3)))⟩
    have L6 := Aside0.mk (L5b.out.only2 O6.out HNE.out.1 HNE.out.2.2)
    have HX6 := Aside0.mk (heap_only O6.out HNE.out.2.1 HX5b.out)
    have HA6 := Aside0.mk (heap_only O6.out (by omega) HA5b.out)
    have B6 := bonly B5b O6.out (by omega)
    rw [← hw6]
    clear hw6 O6
    clear q7 f7 B5 L5 HA5 HI5 HX5 B5b L5b HA5b HI5b HX5b
    go_wp2_with fail
    refine (Fresh_calls w6 L6.out HN.out 4).mono ?_
    rintro e w6a ⟨v6a, rfl, hR, hb⟩
    obtain ⟨A6a, c6a, rfl, hc6a, hC6a⟩ := Kd.R_reads hR
    have B6a := Aside0.mk (below_thenB B6.out hb B6.out.size)
    have L6a := Aside0.mk (L6.out.below hb)
    have HA6a := Aside0.mk (heap_below ⟨hb⟩ HA6.out)
    have HI6a := Aside0.mk (heap_below ⟨hb⟩ HI6.out)
    have HX6a := Aside0.mk (heap_below ⟨hb⟩ HX6.out)
    clear hR hb
    go_wp2_with fail
    refine (sensor_Power.calls A6a c6a _ _ _ _ w6a hC6a hc6a (sPower_eq _ _)).mono ?_
    rintro e w6b ⟨rfl, hb⟩
    replace hb := hb.below
    have B6b := Aside0.mk (below_thenB B6a.out hb B6a.out.size)
    have L6b := Aside0.mk (L6a.out.below hb)
    have HA6b := Aside0.mk (heap_below ⟨hb⟩ HA6a.out)
    have HI6b := Aside0.mk (heap_below ⟨hb⟩ HI6a.out)
    have HX6b := Aside0.mk (heap_below ⟨hb⟩ HX6a.out)
    clear hb hC6a hc6a B6a L6a HA6a HI6a HX6a
    have q8 : World.cell? w6b ⟨w.heap.size + 1, 8, none⟩ = some (.bool false) := cell_of_heap HI6b.out 8
    have f8 := frozen_of_heap HI6b.out 8
    have q9 : World.cell? w6b ⟨w.heap.size + 1, 9, none⟩ = some (.bool false) := cell_of_heap HI6b.out 9
    have f9 := frozen_of_heap HI6b.out 9
    go_upto_region 10 with fail
    obtain ⟨w7, hw7⟩ : ∃ w7, w7 = ((w6b.setCell ⟨w.heap.size + 1, 8, none⟩ (.bool (sPower (dataF F now st 4) (isF F now st 4)).1)).setCell ⟨w.heap.size + 1, 9, none⟩ (.bool (sPower (dataF F now st 4) (isF F now st 4)).2)) := ⟨_, rfl⟩
    have O7 : Aside0 (Only (w.heap.size + 1) w6b w7) := ⟨by rw [hw7]; exact ((set_only _ _ _ _).trans (set_only _ _ _ _))⟩
    have HI7 : Aside0 (w7.heap[w.heap.size + 1]? = some (.cells #[.bool (sBar (dataF F now st 0) (isF F now st 0)).1, .bool (sBar (dataF F now st 0) (isF F now st 0)).2.1, .bool (sBar (dataF F now st 0) (isF F now st 0)).2.2.1, .bool (sBar (dataF F now st 0) (isF F now st 0)).2.2.2, .bool ((atF F now st 0).age == 0), .bool (sLamps (dataF F now st 1) (isF F now st 1)), .bool (sObst (dataF F now st 2) (isF F now st 2)), .int .i64 (sMode (dataF F now st 3) (isF F now st 3)), .bool (sPower (dataF F now st 4) (isF F now st 4)).1, .bool (sPower (dataF F now st 4) (isF F now st 4)).2, .int .i64 0, .slice none 0 0] 36 (0, 0))) := ⟨by rw [hw7]; simpa using blk_set (blk_set (HI6b.out) 8 (.bool (sPower (dataF F now st 4) (isF F now st 4)).1)) 9 (.bool (sPower (dataF F now st 4) (isF F now st 4)).2)⟩
    have L7 := Aside0.mk (L6b.out.only2 O7.out HNE.out.1 HNE.out.2.2)
    have HX7 := Aside0.mk (heap_only O7.out HNE.out.2.1 HX6b.out)
    have HA7 := Aside0.mk (heap_only O7.out (by omega) HA6b.out)
    have B7 := bonly B6b O7.out (by omega)
    rw [← hw7]
    clear hw7 O7
    clear q8 f8 q9 f9 B6 L6 HA6 HI6 HX6 B6b L6b HA6b HI6b HX6b
    go_wp2_with fail
    refine (Fresh_calls w7 L7.out HN.out 5).mono ?_
    rintro e w7a ⟨v7a, rfl, hR, hb⟩
    obtain ⟨A7a, c7a, rfl, hc7a, hC7a⟩ := Kd.R_reads hR
    have B7a := Aside0.mk (below_thenB B7.out hb B7.out.size)
    have L7a := Aside0.mk (L7.out.below hb)
    have HA7a := Aside0.mk (heap_below ⟨hb⟩ HA7.out)
    have HI7a := Aside0.mk (heap_below ⟨hb⟩ HI7.out)
    have HX7a := Aside0.mk (heap_below ⟨hb⟩ HX7.out)
    clear hR hb
    have k1 : World.cell? w7a ⟨x, 1, none⟩ = some (.int .i64 n) := cell_of_heap HX7a.out 1
    go_wp2_with fail
    refine (sensor_Routes.calls A7a c7a _ _ (n : Int) _ w7a hC7a hc7a (sRoutes_eq _ _ _)).mono ?_
    rintro e w7b ⟨rfl, hb⟩
    have B7b := Aside0.mk (below_thenB B7a.out hb B7a.out.size)
    have L7b := Aside0.mk (L7a.out.below hb)
    have HA7b := Aside0.mk (heap_below ⟨hb⟩ HA7a.out)
    have HI7b := Aside0.mk (heap_below ⟨hb⟩ HI7a.out)
    have HX7b := Aside0.mk (heap_below ⟨hb⟩ HX7a.out)
    clear hb hC7a hc7a B7a L7a HA7a HI7a HX7a
    have q10 : World.cell? w7b ⟨w.heap.size + 1, 10, none⟩ = some (.int .i64 0) := cell_of_heap HI7b.out 10
    have f10 := frozen_of_heap HI7b.out 10
    clear k1
    go_upto_region 12 with fail
    obtain ⟨w8, hw8⟩ : ∃ w8, w8 = (w7b.setCell ⟨w.heap.size + 1, 10, none⟩ (.int .i64 (sRoutes (dataF F now st 5) (isF F now st 5) n))) := ⟨_, rfl⟩
    have O8 : Aside0 (Only (w.heap.size + 1) w7b w8) := ⟨by rw [hw8]; exact (set_only _ _ _ _)⟩
    have HI8 : Aside0 (w8.heap[w.heap.size + 1]? = some (.cells #[.bool (sBar (dataF F now st 0) (isF F now st 0)).1, .bool (sBar (dataF F now st 0) (isF F now st 0)).2.1, .bool (sBar (dataF F now st 0) (isF F now st 0)).2.2.1, .bool (sBar (dataF F now st 0) (isF F now st 0)).2.2.2, .bool ((atF F now st 0).age == 0), .bool (sLamps (dataF F now st 1) (isF F now st 1)), .bool (sObst (dataF F now st 2) (isF F now st 2)), .int .i64 (sMode (dataF F now st 3) (isF F now st 3)), .bool (sPower (dataF F now st 4) (isF F now st 4)).1, .bool (sPower (dataF F now st 4) (isF F now st 4)).2, .int .i64 (sRoutes (dataF F now st 5) (isF F now st 5) n), .slice none 0 0] 36 (0, 0))) := ⟨by rw [hw8]; simpa using blk_set (HI7b.out) 10 (.int .i64 (sRoutes (dataF F now st 5) (isF F now st 5) n))⟩
    have L8 := Aside0.mk (L7b.out.only2 O8.out HNE.out.1 HNE.out.2.2)
    have HX8 := Aside0.mk (heap_only O8.out HNE.out.2.1 HX7b.out)
    have HA8 := Aside0.mk (heap_only O8.out (by omega) HA7b.out)
    have B8 := bonly B7b O8.out (by omega)
    rw [← hw8]
    clear hw8 O8
    clear q10 f10 B7 L7 HA7 HI7 HX7 B7b L7b HA7b HI7b HX7b
    have k1 : World.cell? w8 ⟨x, 1, none⟩ = some (.int .i64 n) := cell_of_heap HX8.out 1
    go_wp2_with fail
    clear k1
    go_loopw [78] (fun i W => ∃ (k : Nat) (v : Value), k ≤ n ∧ i = .int .i64 k ∧ Aside0 (LK W g F now (fun k => ok k ∧ k < w.heap.size) st) ∧ Aside0 (W.heap[x]? = some (.cells #[.pointer (some ⟨g, 0, none⟩), .int .i64 n] 58 (0, 0))) ∧ Aside0 (W.heap[w.heap.size]? = some (.cells #[.bool false, .bool false, .bool false, .bool false, .bool false, .bool false, .bool false, .int .i64 0, .bool false, .bool false, .int .i64 0, .slice none 0 0] 36 (0, 0))) ∧ Aside0 (Below w.heap.size w W) ∧ Aside0 (W.heap[w.heap.size + 1]? = some (.cells #[.bool (sBar (dataF F now st 0) (isF F now st 0)).1, .bool (sBar (dataF F now st 0) (isF F now st 0)).2.1, .bool (sBar (dataF F now st 0) (isF F now st 0)).2.2.1, .bool (sBar (dataF F now st 0) (isF F now st 0)).2.2.2, .bool ((atF F now st 0).age == 0), .bool (sLamps (dataF F now st 1) (isF F now st 1)), .bool (sObst (dataF F now st 2) (isF F now st 2)), .int .i64 (sMode (dataF F now st 3) (isF F now st 3)), .bool (sPower (dataF F now st 4) (isF F now st 4)).1, .bool (sPower (dataF F now st 4) (isF F now st 4)).2, .int .i64 (sRoutes (dataF F now st 5) (isF F now st 5) n), v] 36 (0, 0))) ∧ Aside0 (Kd.R k48 48 W w.heap.size (fun k => w.heap.size + 2 ≤ k) v (tracksOf (dataF F now st) (isF F now st) k))) (fun i _ => n - (intOf i).toNat)
    case atStart => exact ⟨0, _, by omega, rfl, L8, HX8, HA8, B8, HI8, ⟨Kd.R_nil _ _ _ _ _⟩⟩
    case round =>
      obtain ⟨k, v, hk, rfl, LR, HXR, HAR, BR, HIR, RR⟩ := hrel
      obtain ⟨Av, cv, rfl, hcv, -⟩ := Kd.R_reads RR.out
      by_cases hlt : k < n
      · have dk : decide (k < n) = true := decide_eq_true hlt
        have HW8 := Aside0.mk (show wrap64 (8 + (k : Int)) = 8 + k by have := HK.out; unfold wrap64; omega)
        have HW9 := Aside0.mk (show IntKind.i64.wrap (8 + (k : Int)) = 8 + k by have := HW8.out; unfold wrap64 at this; rw [IntKind.wrap_i64]; exact this)
        have hq11 : World.cell? wr ⟨w.heap.size + 1, 11, none⟩ = some (.slice Av (tracksOf (dataF F now st) (isF F now st) k).length cv) := cell_of_heap HIR.out 11
        obtain ⟨s, hs⟩ : ∃ s, s = sCnt (dataF F now st (8 + (k : Int))) (isF F now st (8 + (k : Int))) := ⟨_, rfl⟩
        have HS := Aside0.mk hs
        clear hs
        go_upto_region 15 with fail
        refine wp_region_last_drew (S := (fun W => W.cell? ⟨w.heap.size + 1, 11, none⟩ = some (.slice Av (tracksOf (dataF F now st) (isF F now st) k).length cv))) (ds := [12]) (by kernel_rfl) ?_ (fun hHeld => ?_)
        · exact hq11
        refine wpAnyLast_take (i := 0) (oi := { dst := some 81, op := Go.Op.fieldAddr 36 (Go.Operand.tmp 3) 8, type := 0, pos := "inputs.go:52", after := #[], guard := none }) (v := ?vy0) rfl (by kernel_rfl) (by kernel_rfl) (by kernel_rfl) (by kernel_rfl) (by kernel_rfl) (fun _ _ _ h => h) (Or.inl ⟨by rfl, ?yy0⟩) (by assumption) ?ry0
        case yy0 => (((intro w hSw; (try dsimp only at hSw); go_simp) <;> with_reducible rfl))
        try simp only [put_]
        refine wpAnyLast_take (i := 1) (oi := { dst := some 82, op := Go.Op.load 34 (Go.Operand.tmp 81), type := 34, pos := "inputs.go:52", after := #[{ on := 0, ground := Go.Ground.data }], guard := none }) (v := ?vy1) rfl (by kernel_rfl) (by kernel_rfl) (by kernel_rfl) (by kernel_rfl) (by kernel_rfl) (fun _ _ _ h => h) (Or.inl ⟨by rfl, ?yy1⟩) (by assumption) ?ry1
        case yy1 => (((intro w hSw; (try dsimp only at hSw); go_simp) <;> with_reducible rfl))
        try simp only [put_]
        refine wpAnyLast_take (i := 2) (oi := { dst := some 83, op := Go.Op.move (Go.Operand.tmp 4), type := 63, pos := "inputs.go:52", after := #[], guard := none }) (v := ?vy2) rfl (by kernel_rfl) (by kernel_rfl) (by kernel_rfl) (by kernel_rfl) (by kernel_rfl) (fun _ _ _ h => h) (Or.inl ⟨by rfl, ?yy2⟩) (by assumption) ?ry2
        case yy2 => (((intro w hSw; (try dsimp only at hSw); go_simp) <;> with_reducible rfl))
        try simp only [put_]
        refine wpAnyLast_take (i := 3) (oi := { dst := some 84, op := Go.Op.move (Go.Operand.tmp 8), type := 3, pos := "inputs.go:52", after := #[], guard := none }) (v := ?vy3) rfl (by kernel_rfl) (by kernel_rfl) (by kernel_rfl) (by kernel_rfl) (by kernel_rfl) (fun _ _ _ h => h) (Or.inl ⟨by rfl, ?yy3⟩) (by assumption) ?ry3
        case yy3 => (((intro w hSw; (try dsimp only at hSw); go_simp) <;> with_reducible rfl))
        try simp only [put_]
        refine wpAnyLast_take (i := 4) (oi := { dst := some 85, op := Go.Op.binOp Go.BinOp.add 3 (Go.Operand.const (Go.Value.int Go.IntKind.i64 8)) (Go.Operand.tmp 84) 3, type := 3, pos := "inputs.go:52", after := #[{ on := 3, ground := Go.Ground.data }], guard := none }) (v := ?vy4) rfl (by kernel_rfl) (by kernel_rfl) (by kernel_rfl) (by kernel_rfl) (by kernel_rfl) (fun _ _ _ h => h) (Or.inl ⟨by rfl, ?yy4⟩) (by assumption) ?ry4
        case yy4 => (have h8 := HW8.out; have h9 := HW9.out; ((intro w hSw; (try dsimp only at hSw); go_simp) <;> with_reducible rfl))
        try simp only [put_]
        refine wpAnyLast_ready (rs := [5]) (by kernel_rfl) (by simp) ?_
        refine AllReadyL.cons (o := { dst := some 86, op := Go.Op.call { callee := Go.Callee.value (Go.Operand.tmp 83), args := #[Go.Operand.tmp 85], argTypes := #[3] }, type := 65, pos := "inputs.go:52", after := #[{ on := 2, ground := Go.Ground.data }, { on := 4, ground := Go.Ground.data }], guard := none }) rfl (by decide) (fun K hK => ?ky5) AllReadyL.nil
        go_simp
        refine (Fresh_calls wr.drew (LR.out.below (below_drew (Below.refl _ _))) HN.out (8 + (k : Int))).mono ?_
        rintro e w15 ⟨v15, rfl, hR, hb⟩
        obtain ⟨A15, c15, rfl, hc15, hC15⟩ := Kd.R_reads hR
        replace hb := of_drew hb
        have B15 := Aside0.mk (below_thenB BR.out hb BR.out.size)
        have L15 := Aside0.mk (LR.out.below hb)
        have HA15 := Aside0.mk (heap_below ⟨hb⟩ HAR.out)
        have HI15 := Aside0.mk (heap_below ⟨hb⟩ HIR.out)
        have HX15 := Aside0.mk (heap_below ⟨hb⟩ HXR.out)
        clear hR
        go_simp
        refine hK.out _ _ ?_ (fun hHeld => ?_)
        · exact pw_cell_below hb hq11
        clear hK K
        try simp only [put_]
        refine wpAnyLast_take (i := 6) (oi := { dst := some 87, op := Go.Op.extract (Go.Operand.tmp 86) 0, type := 44, pos := "inputs.go:52", after := #[{ on := 5, ground := Go.Ground.data }], guard := none }) (v := ?vy6) rfl (by kernel_rfl) (by kernel_rfl) (by kernel_rfl) (by kernel_rfl) (by kernel_rfl) (fun _ _ _ h => h) (Or.inl ⟨by rfl, ?yy6⟩) (by assumption) ?ry6
        case yy6 => (((intro w hSw; (try dsimp only at hSw); go_simp) <;> with_reducible rfl))
        try simp only [put_]
        refine wpAnyLast_take (i := 7) (oi := { dst := some 88, op := Go.Op.extract (Go.Operand.tmp 86) 1, type := 4, pos := "inputs.go:52", after := #[{ on := 5, ground := Go.Ground.data }], guard := none }) (v := ?vy7) rfl (by kernel_rfl) (by kernel_rfl) (by kernel_rfl) (by kernel_rfl) (by kernel_rfl) (fun _ _ _ h => h) (Or.inl ⟨by rfl, ?yy7⟩) (by assumption) ?ry7
        case yy7 => (((intro w hSw; (try dsimp only at hSw); go_simp) <;> with_reducible rfl))
        try simp only [put_]
        refine wpAnyLast_ready (rs := [8]) (by kernel_rfl) (by simp) ?_
        refine AllReadyL.cons (o := { dst := some 89, op := Go.Op.call { callee := Go.Callee.value (Go.Operand.func 35), args := #[Go.Operand.tmp 87, Go.Operand.tmp 88], argTypes := #[44, 4] }, type := 48, pos := "inputs.go:52", after := #[{ on := 6, ground := Go.Ground.data }, { on := 7, ground := Go.Ground.data }, { on := 5, ground := Go.Ground.chain }], guard := none }) rfl (by decide) (fun K hK => ?ky8) AllReadyL.nil
        go_simp
        refine (sensor_Counts.calls A15 c15 _ _ s.f0 s.f1 s.f2 s.f3 s.f4 w15 hC15 hc15 (by rw [HS.out]; exact sCnt_eq _ _)).mono ?_
        rintro e w16 ⟨rfl, hb2⟩
        have B16 := Aside0.mk (below_thenB B15.out hb2 B15.out.size)
        have L16 := Aside0.mk (L15.out.below hb2)
        have HA16 := Aside0.mk (heap_below ⟨hb2⟩ HA15.out)
        have HI16 := Aside0.mk (heap_below ⟨hb2⟩ HI15.out)
        have HX16 := Aside0.mk (heap_below ⟨hb2⟩ HX15.out)
        go_simp
        refine hK.out _ _ ?_ (fun hHeld => ?_)
        · exact pw_cell_below hb2 (pw_cell_below hb hq11)
        clear hK K
        try simp only [put_]
        refine wpAnyLast_ready (rs := [9]) (by kernel_rfl) (by simp) ?_
        refine AllReadyL.cons (o := { dst := some 90, op := Go.Op.buildSlice 34 1 #[(0, Go.Operand.tmp 89)], type := 34, pos := "inputs.go:52", after := #[{ on := 8, ground := Go.Ground.data }], guard := none }) rfl (by decide) (fun K hK => ?ky9) AllReadyL.nil
        go_simp
        refine hK.out _ _ ?_ (fun hHeld => ?_)
        · exact cell_of_heap (heap_below ⟨below_alloc (Below.refl _ _) _⟩ HI16.out) 11
        clear hK K
        try simp only [put_]
        refine wpAnyLast_ready (rs := [10]) (by kernel_rfl) (by simp) ?_
        refine AllReadyL.cons (o := { dst := some 91, op := Go.Op.call { callee := Go.Callee.builtin Go.Builtin.append, args := #[Go.Operand.tmp 82, Go.Operand.tmp 90], argTypes := #[34, 34] }, type := 34, pos := "inputs.go:52", after := #[{ on := 1, ground := Go.Ground.data }, { on := 9, ground := Go.Ground.data }, { on := 8, ground := Go.Ground.chain }], guard := none }) rfl (by decide) (fun K hK => ?ky10) AllReadyL.nil
        refine Kd.R_append_rows_step k48 (Rr := k48.K (w16.alloc (.cells #[.bool s.f0, .int .i64 s.f1, .int .i64 s.f2, .int .i64 s.f3, .int .i64 s.f4] 48))) (w0 := w) w.heap.size rfl (.tmp 82) (.tmp 90) 34 48 (.agg #[.bool false, .int .i64 0, .int .i64 0, .int .i64 0, .int .i64 0]) 40 rfl Tryd.underlying34 info48 rfl (by decide) (by omega) (.slice Av (tracksOf (dataF F now st) (isF F now st) k).length cv) (tracksOf (dataF F now st) (isF F now st) k) [s] (some ⟨w16.heap.size, 0, none⟩) 1 1 (fun k => w.heap.size + 2 ≤ k) (fun _ => False) rfl rfl ?aOy ?aRy ?aKy (fun _ h => h.elim) ?aFy ?aBy ?aSy ?aLy ?_
        case aOy => exact Kd.R_below RR.out (below_alloc (below_thenB hb hb2 hb.size) _)
        case aRy => exact C_cnt w16 s
        case aKy => intro x cs hx; rw [k48_open hx]; exact k48_mkM _ _ _ _
        case aFy => intro j hj; have := heap_lt HI16.out; simp at hj; omega
        case aBy => exact below_alloc B16.out _
        case aSy => have := B16.out.size; simp; omega
        case aLy => rw [tracksOf_len]; have := HK.out; omega
        intro v17 w17 ho hbw hg hat
        have hrow : ∀ i, i < w.heap.size + 2 → some i ≠ (Value.slice Av (tracksOf (dataF F now st) (isF F now st) k).length cv).ownBlock := fun i hi he => by have h1 : w.heap.size + 2 ≤ i := RR.out.1 i he.symm; omega
        have ba : Below w16.heap.size w16 (w16.alloc (.cells #[.bool s.f0, .int .i64 s.f1, .int .i64 s.f2, .int .i64 s.f3, .int .i64 s.f4] 48)) := below_alloc (Below.refl _ _) _
        have La := L16.out.below ba
        have HXa := heap_below ⟨ba⟩ HX16.out
        have HAa := heap_below ⟨ba⟩ HA16.out
        have HIa := heap_below ⟨ba⟩ HI16.out
        have L17 := Aside0.mk (La.step (hg.block g La.lt (hrow g (by have := HLG.out; omega))) (fun i hi hlt => hg.block i hlt (hrow i (by have := hi.2; omega))))
        have HX17 := Aside0.mk ((hg.block x (heap_lt HXa) (hrow x (by have := HLX.out; omega))).trans HXa)
        have HA17 := Aside0.mk ((hg.block _ (heap_lt HAa) (hrow _ (by omega))).trans HAa)
        have HI17 := Aside0.mk ((hg.block _ (heap_lt HIa) (hrow _ (by omega))).trans HIa)
        have B17 := Aside0.mk hbw
        have R17 : Aside0 (Kd.R k48 48 w17 w.heap.size (fun k => w.heap.size + 2 ≤ k) v17 (tracksOf (dataF F now st) (isF F now st) (k + 1))) := ⟨by rw [tracksOf_succ, ← HS.out]; exact ho⟩
        obtain ⟨A17, c17, rfl, -, -⟩ := Kd.R_reads R17.out
        clear hat ho hg hrow ba La HXa HAa HIa hbw
        refine hK.out _ _ ?_ (fun hHeld => ?_)
        · exact cell_of_heap HI17.out 11
        clear hK K
        try simp only [put_]
        refine wpAnyLast_take (i := 11) (oi := { dst := some 92, op := Go.Op.fieldAddr 36 (Go.Operand.tmp 3) 8, type := 0, pos := "inputs.go:52", after := #[{ on := 0, ground := Go.Ground.phase }, { on := 1, ground := Go.Ground.phase }, { on := 2, ground := Go.Ground.phase }, { on := 3, ground := Go.Ground.phase }, { on := 4, ground := Go.Ground.phase }, { on := 5, ground := Go.Ground.phase }, { on := 6, ground := Go.Ground.phase }, { on := 7, ground := Go.Ground.phase }, { on := 8, ground := Go.Ground.phase }, { on := 9, ground := Go.Ground.phase }, { on := 10, ground := Go.Ground.phase }], guard := none }) (v := ?vy11) rfl (by kernel_rfl) (by kernel_rfl) (by kernel_rfl) (by kernel_rfl) (by kernel_rfl) (fun _ _ _ h => h) (Or.inl ⟨by rfl, ?yy11⟩) (by assumption) ?ry11
        case yy11 => (((intro w hSw; (try dsimp only at hSw); go_simp) <;> with_reducible rfl))
        try simp only [put_]
        refine wpAnyLast_ready (rs := [12]) (by kernel_rfl) (by simp) ?_
        refine AllReadyL.cons_last (o := { dst := none, op := Go.Op.store 34 (Go.Operand.tmp 92) (Go.Operand.tmp 91), type := 0, pos := "inputs.go:52", after := #[{ on := 11, ground := Go.Ground.data }, { on := 10, ground := Go.Ground.data }, { on := 10, ground := Go.Ground.chain }, { on := 0, ground := Go.Ground.phase }, { on := 1, ground := Go.Ground.phase }, { on := 2, ground := Go.Ground.phase }, { on := 3, ground := Go.Ground.phase }, { on := 4, ground := Go.Ground.phase }, { on := 5, ground := Go.Ground.phase }, { on := 6, ground := Go.Ground.phase }, { on := 7, ground := Go.Ground.phase }, { on := 8, ground := Go.Ground.phase }, { on := 9, ground := Go.Ground.phase }, { on := 10, ground := Go.Ground.phase }], guard := none }) rfl (by decide) (fun K hK => ?ky12) AllReadyL.nil
        have q11 : World.cell? w17 ⟨w.heap.size + 1, 11, none⟩ = some (.slice Av (tracksOf (dataF F now st) (isF F now st) k).length cv) := cell_of_heap HI17.out 11
        have f11 := frozen_of_heap HI17.out 11
        go_simp
        refine hK.out _ _ ?_
        clear hK K
        try simp only [put_]
        refine wpAnyLast_done (by kernel_rfl) ?_ _
        have hk1 : (k : Int) + 1 ≤ 8 := by have := HK.out; omega
        go_wp2_with fail
        go_roundw
        case rel => exact ⟨k + 1, _, hlt, rfl, ⟨L17.out.only2 (set_only _ _ _ _) HNE.out.1 HNE.out.2.2⟩, ⟨heap_only (set_only _ _ _ _) HNE.out.2.1 HX17.out⟩, ⟨heap_only (set_only _ _ _ _) (by omega) HA17.out⟩, bonly B17 (set_only _ _ _ _) (by omega), ⟨by simpa using blk_set HI17.out 11 (.slice A17 (tracksOf (dataF F now st) (isF F now st) (k + 1)).length c17)⟩, ⟨Kd.R_far R17.out (fun j hj => by have h1 : w.heap.size + 2 ≤ j := hj; show j ≠ w.heap.size + 1; omega) _⟩⟩
        case measure => simp [intOf]; omega
      · have dk : decide (k < n) = false := decide_eq_false hlt
        have hkn : n = k := by omega
        subst hkn
        have q0 : World.cell? wr ⟨w.heap.size + 1, 0, none⟩ = some (.bool (sBar (dataF F now st 0) (isF F now st 0)).1) := cell_of_heap HIR.out 0
        have r0 : World.cell? wr ⟨w.heap.size, 0, none⟩ = some (.bool false) := cell_of_heap HAR.out 0
        have z0 := frozen_of_heap HAR.out 0
        have q1 : World.cell? wr ⟨w.heap.size + 1, 1, none⟩ = some (.bool (sBar (dataF F now st 0) (isF F now st 0)).2.1) := cell_of_heap HIR.out 1
        have r1 : World.cell? wr ⟨w.heap.size, 1, none⟩ = some (.bool false) := cell_of_heap HAR.out 1
        have z1 := frozen_of_heap HAR.out 1
        have q2 : World.cell? wr ⟨w.heap.size + 1, 2, none⟩ = some (.bool (sBar (dataF F now st 0) (isF F now st 0)).2.2.1) := cell_of_heap HIR.out 2
        have r2 : World.cell? wr ⟨w.heap.size, 2, none⟩ = some (.bool false) := cell_of_heap HAR.out 2
        have z2 := frozen_of_heap HAR.out 2
        have q3 : World.cell? wr ⟨w.heap.size + 1, 3, none⟩ = some (.bool (sBar (dataF F now st 0) (isF F now st 0)).2.2.2) := cell_of_heap HIR.out 3
        have r3 : World.cell? wr ⟨w.heap.size, 3, none⟩ = some (.bool false) := cell_of_heap HAR.out 3
        have z3 := frozen_of_heap HAR.out 3
        have q4 : World.cell? wr ⟨w.heap.size + 1, 4, none⟩ = some (.bool ((atF F now st 0).age == 0)) := cell_of_heap HIR.out 4
        have r4 : World.cell? wr ⟨w.heap.size, 4, none⟩ = some (.bool false) := cell_of_heap HAR.out 4
        have z4 := frozen_of_heap HAR.out 4
        have q5 : World.cell? wr ⟨w.heap.size + 1, 5, none⟩ = some (.bool (sLamps (dataF F now st 1) (isF F now st 1))) := cell_of_heap HIR.out 5
        have r5 : World.cell? wr ⟨w.heap.size, 5, none⟩ = some (.bool false) := cell_of_heap HAR.out 5
        have z5 := frozen_of_heap HAR.out 5
        have q6 : World.cell? wr ⟨w.heap.size + 1, 6, none⟩ = some (.bool (sObst (dataF F now st 2) (isF F now st 2))) := cell_of_heap HIR.out 6
        have r6 : World.cell? wr ⟨w.heap.size, 6, none⟩ = some (.bool false) := cell_of_heap HAR.out 6
        have z6 := frozen_of_heap HAR.out 6
        have q7 : World.cell? wr ⟨w.heap.size + 1, 7, none⟩ = some (.int .i64 (sMode (dataF F now st 3) (isF F now st 3))) := cell_of_heap HIR.out 7
        have r7 : World.cell? wr ⟨w.heap.size, 7, none⟩ = some (.int .i64 0) := cell_of_heap HAR.out 7
        have z7 := frozen_of_heap HAR.out 7
        have q8 : World.cell? wr ⟨w.heap.size + 1, 8, none⟩ = some (.bool (sPower (dataF F now st 4) (isF F now st 4)).1) := cell_of_heap HIR.out 8
        have r8 : World.cell? wr ⟨w.heap.size, 8, none⟩ = some (.bool false) := cell_of_heap HAR.out 8
        have z8 := frozen_of_heap HAR.out 8
        have q9 : World.cell? wr ⟨w.heap.size + 1, 9, none⟩ = some (.bool (sPower (dataF F now st 4) (isF F now st 4)).2) := cell_of_heap HIR.out 9
        have r9 : World.cell? wr ⟨w.heap.size, 9, none⟩ = some (.bool false) := cell_of_heap HAR.out 9
        have z9 := frozen_of_heap HAR.out 9
        have q10 : World.cell? wr ⟨w.heap.size + 1, 10, none⟩ = some (.int .i64 (sRoutes (dataF F now st 5) (isF F now st 5) n)) := cell_of_heap HIR.out 10
        have r10 : World.cell? wr ⟨w.heap.size, 10, none⟩ = some (.int .i64 0) := cell_of_heap HAR.out 10
        have z10 := frozen_of_heap HAR.out 10
        have q11 : World.cell? wr ⟨w.heap.size + 1, 11, none⟩ = some (.slice Av (tracksOf (dataF F now st) (isF F now st) n).length cv) := cell_of_heap HIR.out 11
        have r11 : World.cell? wr ⟨w.heap.size, 11, none⟩ = some (.slice none 0 0) := cell_of_heap HAR.out 11
        have z11 := frozen_of_heap HAR.out 11
        go_wp2_with fail
        obtain ⟨w9, hw9⟩ : ∃ w9, w9 = ((((((((((((wr.setCell ⟨w.heap.size, 0, none⟩ (.bool (sBar (dataF F now st 0) (isF F now st 0)).1)).setCell ⟨w.heap.size, 1, none⟩ (.bool (sBar (dataF F now st 0) (isF F now st 0)).2.1)).setCell ⟨w.heap.size, 2, none⟩ (.bool (sBar (dataF F now st 0) (isF F now st 0)).2.2.1)).setCell ⟨w.heap.size, 3, none⟩ (.bool (sBar (dataF F now st 0) (isF F now st 0)).2.2.2)).setCell ⟨w.heap.size, 4, none⟩ (.bool ((atF F now st 0).age == 0))).setCell ⟨w.heap.size, 5, none⟩ (.bool (sLamps (dataF F now st 1) (isF F now st 1)))).setCell ⟨w.heap.size, 6, none⟩ (.bool (sObst (dataF F now st 2) (isF F now st 2)))).setCell ⟨w.heap.size, 7, none⟩ (.int .i64 (sMode (dataF F now st 3) (isF F now st 3)))).setCell ⟨w.heap.size, 8, none⟩ (.bool (sPower (dataF F now st 4) (isF F now st 4)).1)).setCell ⟨w.heap.size, 9, none⟩ (.bool (sPower (dataF F now st 4) (isF F now st 4)).2)).setCell ⟨w.heap.size, 10, none⟩ (.int .i64 (sRoutes (dataF F now st 5) (isF F now st 5) n))).setCell ⟨w.heap.size, 11, none⟩ (.slice Av (tracksOf (dataF F now st) (isF F now st) n).length cv)) := ⟨_, rfl⟩
        have H9 : w9.heap[w.heap.size]? = some (.cells #[.bool (sBar (dataF F now st 0) (isF F now st 0)).1, .bool (sBar (dataF F now st 0) (isF F now st 0)).2.1, .bool (sBar (dataF F now st 0) (isF F now st 0)).2.2.1, .bool (sBar (dataF F now st 0) (isF F now st 0)).2.2.2, .bool ((atF F now st 0).age == 0), .bool (sLamps (dataF F now st 1) (isF F now st 1)), .bool (sObst (dataF F now st 2) (isF F now st 2)), .int .i64 (sMode (dataF F now st 3) (isF F now st 3)), .bool (sPower (dataF F now st 4) (isF F now st 4)).1, .bool (sPower (dataF F now st 4) (isF F now st 4)).2, .int .i64 (sRoutes (dataF F now st 5) (isF F now st 5) n), .slice Av (tracksOf (dataF F now st) (isF F now st) n).length cv] 36 (0, 0)) := by rw [hw9]; simpa using blk_set (blk_set (blk_set (blk_set (blk_set (blk_set (blk_set (blk_set (blk_set (blk_set (blk_set (blk_set (HAR.out) 0 (.bool (sBar (dataF F now st 0) (isF F now st 0)).1)) 1 (.bool (sBar (dataF F now st 0) (isF F now st 0)).2.1)) 2 (.bool (sBar (dataF F now st 0) (isF F now st 0)).2.2.1)) 3 (.bool (sBar (dataF F now st 0) (isF F now st 0)).2.2.2)) 4 (.bool ((atF F now st 0).age == 0))) 5 (.bool (sLamps (dataF F now st 1) (isF F now st 1)))) 6 (.bool (sObst (dataF F now st 2) (isF F now st 2)))) 7 (.int .i64 (sMode (dataF F now st 3) (isF F now st 3)))) 8 (.bool (sPower (dataF F now st 4) (isF F now st 4)).1)) 9 (.bool (sPower (dataF F now st 4) (isF F now st 4)).2)) 10 (.int .i64 (sRoutes (dataF F now st 5) (isF F now st 5) n))) 11 (.slice Av (tracksOf (dataF F now st) (isF F now st) n).length cv)
        have O9 : Only w.heap.size wr w9 := by rw [hw9]; exact ((((((((((((set_only _ _ _ _).trans (set_only _ _ _ _)).trans (set_only _ _ _ _)).trans (set_only _ _ _ _)).trans (set_only _ _ _ _)).trans (set_only _ _ _ _)).trans (set_only _ _ _ _)).trans (set_only _ _ _ _)).trans (set_only _ _ _ _)).trans (set_only _ _ _ _)).trans (set_only _ _ _ _)).trans (set_only _ _ _ _))
        rw [← hw9]
        clear hw9 q0 r0 z0 q1 r1 z1 q2 r2 z2 q3 r3 z3 q4 r4 z4 q5 r5 z5 q6 r6 z6 q7 r7 z7 q8 r8 z8 q9 r9 z9 q10 r10 z10 q11 r11 z11
        have r0 : World.cell? w9 ⟨w.heap.size, 0, none⟩ = some (.bool (sBar (dataF F now st 0) (isF F now st 0)).1) := cell_of_heap H9 0
        have r1 : World.cell? w9 ⟨w.heap.size, 1, none⟩ = some (.bool (sBar (dataF F now st 0) (isF F now st 0)).2.1) := cell_of_heap H9 1
        have r2 : World.cell? w9 ⟨w.heap.size, 2, none⟩ = some (.bool (sBar (dataF F now st 0) (isF F now st 0)).2.2.1) := cell_of_heap H9 2
        have r3 : World.cell? w9 ⟨w.heap.size, 3, none⟩ = some (.bool (sBar (dataF F now st 0) (isF F now st 0)).2.2.2) := cell_of_heap H9 3
        have r4 : World.cell? w9 ⟨w.heap.size, 4, none⟩ = some (.bool ((atF F now st 0).age == 0)) := cell_of_heap H9 4
        have r5 : World.cell? w9 ⟨w.heap.size, 5, none⟩ = some (.bool (sLamps (dataF F now st 1) (isF F now st 1))) := cell_of_heap H9 5
        have r6 : World.cell? w9 ⟨w.heap.size, 6, none⟩ = some (.bool (sObst (dataF F now st 2) (isF F now st 2))) := cell_of_heap H9 6
        have r7 : World.cell? w9 ⟨w.heap.size, 7, none⟩ = some (.int .i64 (sMode (dataF F now st 3) (isF F now st 3))) := cell_of_heap H9 7
        have r8 : World.cell? w9 ⟨w.heap.size, 8, none⟩ = some (.bool (sPower (dataF F now st 4) (isF F now st 4)).1) := cell_of_heap H9 8
        have r9 : World.cell? w9 ⟨w.heap.size, 9, none⟩ = some (.bool (sPower (dataF F now st 4) (isF F now st 4)).2) := cell_of_heap H9 9
        have r10 : World.cell? w9 ⟨w.heap.size, 10, none⟩ = some (.int .i64 (sRoutes (dataF F now st 5) (isF F now st 5) n)) := cell_of_heap H9 10
        have r11 : World.cell? w9 ⟨w.heap.size, 11, none⟩ = some (.slice Av (tracksOf (dataF F now st) (isF F now st) n).length cv) := cell_of_heap H9 11
        refine bodyPost_ret (v := .agg #[.bool (sBar (dataF F now st 0) (isF F now st 0)).1, .bool (sBar (dataF F now st 0) (isF F now st 0)).2.1, .bool (sBar (dataF F now st 0) (isF F now st 0)).2.2.1, .bool (sBar (dataF F now st 0) (isF F now st 0)).2.2.2, .bool ((atF F now st 0).age == 0), .bool (sLamps (dataF F now st 1) (isF F now st 1)), .bool (sObst (dataF F now st 2) (isF F now st 2)), .int .i64 (sMode (dataF F now st 3) (isF F now st 3)), .bool (sPower (dataF F now st 4) (isF F now st 4)).1, .bool (sPower (dataF F now st 4) (isF F now st 4)).2, .int .i64 (sRoutes (dataF F now st 5) (isF F now st 5) n), .slice Av (tracksOf (dataF F now st) (isF F now st) n).length cv]) (by simp [results, Tryd.results16, go_sem, r0, r1, r2, r3, r4, r5, r6, r7, r8, r9, r10, r11]) rfl ⟨.slice Av (tracksOf (dataF F now st) (isF F now st) n).length cv, ?_, ?_, (bonly BR O9 (Nat.le_refl _)).out⟩
        · rw [HI.out]; unfold nowOf Inp.val; rw [HH.out]; rfl
        · rw [HI.out]; exact Kd.R_mono (Kd.R_step RR.out (fun j hj hl => O9.block j hl (by have h1 : w.heap.size + 2 ≤ j := hj; omega))) (fun _ _ => trivial)

end Go.Proofs.YtfijlaahifeimaaDoor.PE
