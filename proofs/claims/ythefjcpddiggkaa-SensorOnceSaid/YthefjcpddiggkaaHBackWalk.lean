/- What is printed is read as it was: SensorBack returns true, of any inputs (the walk of the law). -/
import Derived.Test.YthefjcpddiggkaaHBackPure
import Derived.Deep.RegionHeld3
import Derived.Outline
namespace Go.Proofs.Ythefjcpddiggkaa.PS
open Go.RowKit Go.Proofs.YthefjcpddiggkaaW.PrintWords Go.Proofs.YthefjcpddiggkaaW.PrintLast Go.Proofs.YthefjcpddiggkaaW.PrintMore
attribute [local go_sem] max2_int min2_int max_two min_two max_three min_three max_four min_four
set_option linter.unusedVariables false
set_option linter.unusedSimpArgs false
attribute [local go_sem high] eqA27 eqA33

theorem of_drew {w w1 : World} (h : Below w.drew.heap.size w.drew w1) : Below w.heap.size w w1 := ⟨h.os, h.tape, h.output, h.size, h.block⟩
theorem heap_below {w w1 : World} (h : Aside0 (Below w.heap.size w w1)) {g : Nat} {o : Obj} (hg : w.heap[g]? = some o) : w1.heap[g]? = some o :=
  (h.out.block g (Array.getElem?_eq_some_iff.1 hg).1).trans hg
theorem heap_new (w : World) (o : Obj) : (w.alloc o).heap[w.heap.size]? = some o := heap_alloc_new w o
theorem heap_lt {w : World} {g : Nat} {o : Obj} (hg : w.heap[g]? = some o) : g < w.heap.size := (Array.getElem?_eq_some_iff.1 hg).1
theorem cell_of_heap {w : World} {g : Nat} {cs : Array Value} {t : TypeId} {fr : Nat × Nat} (hg : w.heap[g]? = some (.cells cs t fr)) (k : Nat) : w.cell? ⟨g, k, none⟩ = cs[k]? := by
  simp [World.cell?, hg]

/-- Print of the inputs, at a channel. -/
theorem prt_calls (A : Option Addr) (c : Nat) (b0 b1 b2 b3 su la ob : Bool) (mo : Int) (ma ba : Bool) (ro : Int) (tr : List S33) (ch : Int) (r : List Int) (w : World) (hr : Kd.C k33 w A tr.length tr) (hc : tr.length ≤ c) (h : Inp.prt ⟨b0, b1, b2, b3, su, la, ob, mo, ma, ba, ro, tr⟩ ch = some r) :
    Calls Try.prog 23 #[.agg #[.bool b0, .bool b1, .bool b2, .bool b3, .bool su, .bool la, .bool ob, .int .i64 mo, .bool ma, .bool ba, .int .i64 ro, .slice A tr.length c], .int .i64 ch] w fun e w' => ∃ (A0 : Option Addr) (c0 : Nat), e = .returned (.slice A0 r.length c0) ∧ r.length ≤ c0 ∧ Kd.C (Kd.int .u8) w' A0 r.length r ∧ Aside0 (Below w.heap.size w w') :=
  (sensor_Print.calls 9 b0 b1 b2 b3 su la ob mo ma ba ro A c tr ch r w hr hc h).mono fun e w' ⟨v, h1, h2, h3⟩ => by
    obtain ⟨A0, c0, rfl, h4, h5⟩ := Kd.R_reads h2
    exact ⟨A0, c0, h1, h4, h5, ⟨h3⟩⟩

/-- The block of the inputs, as it stands. -/
def Stands (W : World) (g : Nat) (A : Option Addr) (c : Nat) (i : Inp) : Prop := W.heap[g]? = some (.cells #[.bool i.b0, .bool i.b1, .bool i.b2, .bool i.b3, .bool i.sure, .bool i.lamps, .bool i.obst, .int .i64 i.mode, .bool i.mains, .bool i.batt, .int .i64 i.routes, .slice A i.tracks.length c] 38 (0, 0))
theorem Stands.below {W W' : World} {g : Nat} {A : Option Addr} {c : Nat} {i : Inp} (h : Stands W g A c i) (hb : Aside0 (Below W.heap.size W W')) : Stands W' g A c i := heap_below hb h

theorem routes_quiet (A0 : Option Addr) (c0 : Nat) (l0 : List Int) (a1 : Bool) (a2 : Int) (r : Int) (w : World) (hr0 : Kd.C (Kd.int .u8) w A0 l0.length l0) (hc0 : l0.length ≤ c0) (h : sensor_Routes.f l0 a1 a2 = some r) :
    Calls Try.prog 19 #[.slice A0 l0.length c0, .bool a1, .int .i64 a2] w fun e w' => e = .returned (.int .i64 r) ∧ Drawn0 w w' := by
  have HR0 := Aside0.mk hr0
  have HC0 := Aside0.mk hc0
  clear hr0 hc0
  have HB := Aside0.mk (Below.refl w.heap.size w)
  have H : ((sensor_single.f l0 a1 (wrap64 (2 ^ (mx 0 (mn a2 8)).toNat))).bind fun bt124 => (some bt124.1)) = some r := h
  clear h
  obtain ⟨ji4, hji4⟩ : ∃ j_ : Int, (mn a2 8) = j_ := ⟨_, rfl⟩
  replace H : ((sensor_single.f l0 a1 (wrap64 (2 ^ (mx 0 (ji4)).toNat))).bind fun bt124 => (some bt124.1)) = some r := by first | (rw [hji4] at H; exact H) | (simp only [hji4] at H ⊢; exact H)
  (try (have hji4h : ji4 ≤ 8 := by (rw [← hji4]; unfold mn; (repeat' split) <;> omega)))
  (try (have hji4g : ji4 ≤ 64 := by omega))
  have hji4_ : (if 8 < a2 then 8 else a2) = ji4 := hji4
  obtain ⟨ji5, hji5⟩ : ∃ j_ : Int, (mx 0 (ji4)) = j_ := ⟨_, rfl⟩
  replace H : ((sensor_single.f l0 a1 (wrap64 (2 ^ (ji5).toNat))).bind fun bt124 => (some bt124.1)) = some r := by first | (rw [hji5] at H; exact H) | (simp only [hji5] at H ⊢; exact H)
  have hji5_ : (if 0 < (ji4) then (ji4) else 0) = ji5 := hji5
  replace H := Option.bind_eq_some_iff.mp H
  obtain ⟨⟨t124, t125⟩, A60, H⟩ := H
  replace H : (some t124) = some r := H
  have A6 := Aside0.mk A60
  clear A60
  obtain rfl := Option.some.inj H
  go_enter Try.func19, Try.ntmps19
  go_wp2_with (first | ((with_reducible refine gate_callee (f := 24) rfl ?_); refine goesL_ (some 16) rfl rfl Try.func24 (by kernel_rfl) rfl #[.slice A0 l0.length c0, .bool a1, .int .i64 (wrap64 (2 ^ (ji5).toNat))] rfl (by (try simp only [List.map_toArray, List.map_cons, List.map_nil]); first | done | (simp only [hji5]; rfl) | rfl | (simp only [List.length_drop, List.length_take]; rfl)) ?_; (with_reducible refine (sensor_single.calls _ _ l0 a1 (wrap64 (2 ^ (ji5).toNat)) t124 t125 _ ?side1 ?side2 A6.out).mono ?_); (case side1 => repeat (first | exact HR0.out | (with_reducible refine Kd.C_alloc ?_ _) | (with_reducible refine Kd.C_drewN ?_ _) | (with_reducible refine Kd.C_drew ?_))); (case side2 => exact HC0.out); rintro e w' ⟨rfl, ⟨nd, rfl⟩⟩; refine ⟨_, rfl, ?_⟩))
  go_ret
  exact ⟨by first | rfl | (simp [errW_none, errW_some] <;> rfl) | (simp only [← hji4, ← hji5]; first | rfl | (simp [errW_none, errW_some] <;> rfl)) | (simp [*, errW_none, errW_some] <;> rfl), by repeat (first | exact Drawn0.refl _ | apply Drawn0.step)⟩
/-- A number as a byte, if it is one. -/
def numB (n b : Int) : List Int := if 0 ≤ n ∧ n < b then [n % 256] else []
theorem numB_pos {n b : Int} (h : 0 ≤ n ∧ n < b) : numB n b = [n % 256] := if_pos h
theorem numB_neg {n b : Int} (h : ¬ (0 ≤ n ∧ n < b)) : numB n b = [] := if_neg h
theorem number_isB (n b : Int) : sensor_number.f n b = some (numB n b) := number_is n b
set_option maxHeartbeats 8000000 in
set_option maxRecDepth 100000 in
theorem back_big (A : Option Addr) (c : Nat) (b0 b1 b2 b3 su la ob : Bool) (mo : Int) (ma ba : Bool) (ro : Int) (tr : List S33) (w : World) (hbig : 8 < tr.length) (hn : tr.length ≤ 9223372036854775807) :
    Calls Try.prog 4 #[.agg #[.bool b0, .bool b1, .bool b2, .bool b3, .bool su, .bool la, .bool ob, .int .i64 mo, .bool ma, .bool ba, .int .i64 ro, .slice A tr.length c]] w fun e w' => e = .returned (.bool true) ∧ Below w.heap.size w w' := by
  go_enter Try.func4, Try.ntmps4
  go_wp2_with fail
  refine (small_true _).mono ?_
  rintro e w1 ⟨rfl, hb⟩
  have HG := Aside0.mk (heap_below ⟨hb⟩ (heap_new w _))
  have B1 := btrans (balloc ⟨Below.refl _ w⟩ _) ⟨hb⟩
  clear hb
  have c11 : w1.cell? ⟨w.heap.size, 11, none⟩ = some (.slice A tr.length c) := cell_of_heap HG.out 11
  go_wp2
  go_ret
  exact ⟨rfl, B1.out⟩
set_option maxHeartbeats 16000000 in
set_option maxRecDepth 100000 in
theorem back_few (A : Option Addr) (c : Nat) (b0 b1 b2 b3 su la ob : Bool) (mo : Int) (ma ba : Bool) (ro : Int) (tr : List S33) (w : World) (hr : Kd.C k33 w A tr.length tr) (hc : tr.length ≤ c) (hlen : tr.length ≤ 8) :
    Calls Try.prog 4 #[.agg #[.bool b0, .bool b1, .bool b2, .bool b3, .bool su, .bool la, .bool ob, .int .i64 mo, .bool ma, .bool ba, .int .i64 ro, .slice A tr.length c]] w fun e w' => e = .returned (.bool true) ∧ Below w.heap.size w w' := by
  have HR := Aside0.mk hr
  have HC := Aside0.mk hc
  clear hr hc
  go_enter Try.func4, Try.ntmps4
  go_wp2_with fail
  refine (small_true _).mono ?_
  rintro e w1 ⟨rfl, hb⟩
  have HG := Aside0.mk (heap_below ⟨hb⟩ (heap_new w _))
  have B1 := btrans (balloc ⟨Below.refl _ w⟩ _) ⟨hb⟩
  clear hb
  have c0 : World.cell? w1 ⟨w.heap.size, 0, none⟩ = some (.bool b0) := cell_of_heap HG.out 0
  have c1 : World.cell? w1 ⟨w.heap.size, 1, none⟩ = some (.bool b1) := cell_of_heap HG.out 1
  have c2 : World.cell? w1 ⟨w.heap.size, 2, none⟩ = some (.bool b2) := cell_of_heap HG.out 2
  have c3 : World.cell? w1 ⟨w.heap.size, 3, none⟩ = some (.bool b3) := cell_of_heap HG.out 3
  have c4 : World.cell? w1 ⟨w.heap.size, 4, none⟩ = some (.bool su) := cell_of_heap HG.out 4
  have c5 : World.cell? w1 ⟨w.heap.size, 5, none⟩ = some (.bool la) := cell_of_heap HG.out 5
  have c6 : World.cell? w1 ⟨w.heap.size, 6, none⟩ = some (.bool ob) := cell_of_heap HG.out 6
  have c7 : World.cell? w1 ⟨w.heap.size, 7, none⟩ = some (.int .i64 mo) := cell_of_heap HG.out 7
  have c8 : World.cell? w1 ⟨w.heap.size, 8, none⟩ = some (.bool ma) := cell_of_heap HG.out 8
  have c9 : World.cell? w1 ⟨w.heap.size, 9, none⟩ = some (.bool ba) := cell_of_heap HG.out 9
  have c10 : World.cell? w1 ⟨w.heap.size, 10, none⟩ = some (.int .i64 ro) := cell_of_heap HG.out 10
  have c11 : World.cell? w1 ⟨w.heap.size, 11, none⟩ = some (.slice A tr.length c) := cell_of_heap HG.out 11
  go_wp2_with fail
  refine (prt_calls _ _ _ _ _ _ _ _ _ _ _ _ _ _ 0 _ _ (Kd.C_below HR.out B1.out) HC.out (prt0 ⟨b0, b1, b2, b3, su, la, ob, mo, ma, ba, ro, tr⟩)).mono ?_
  rintro e w2 ⟨Aw2, kw2, rfl, hk, hC, hb⟩
  have Kw2 := Aside0.mk hk
  have Cw2 := Aside0.mk hC
  clear c0 c1 c2 c3 c4 c5 c6 c7 c8 c9 c10 c11
  have B2 := btrans B1 hb
  have HGn := Aside0.mk (heap_below hb HG.out)
  clear HG
  have HG := HGn
  clear HGn
  clear hb hk hC
  obtain ⟨p, hp⟩ : ∃ p, Inp.p0 ⟨b0, b1, b2, b3, su, la, ob, mo, ma, ba, ro, tr⟩ = p := ⟨_, rfl⟩
  have P0 := Aside0.mk (p0_back ⟨b0, b1, b2, b3, su, la, ob, mo, ma, ba, ro, tr⟩)
  rw [hp] at P0 Cw2 Kw2 ⊢
  clear hp
  go_upto_region 5 with fail
  go_cut [27] (fun v W => v = .bool false ∧ Aside0 (Below w2.heap.size w2 W))
  case first =>
    by_cases hz : 0 < p.length
    · obtain ⟨x, hx, hxb⟩ := P0.out hz
      subst hx
      have hxb' := Aside0.mk hxb
      clear hxb hz
      have c0 : World.cell? w2 ⟨w.heap.size, 0, none⟩ = some (.bool b0) := cell_of_heap HG.out 0
      have c1 : World.cell? w2 ⟨w.heap.size, 1, none⟩ = some (.bool b1) := cell_of_heap HG.out 1
      have c2 : World.cell? w2 ⟨w.heap.size, 2, none⟩ = some (.bool b2) := cell_of_heap HG.out 2
      have c3 : World.cell? w2 ⟨w.heap.size, 3, none⟩ = some (.bool b3) := cell_of_heap HG.out 3
      go_region_held3 (fun W => W.cell? ⟨w.heap.size, 0, none⟩ = some (.bool b0) ∧ W.cell? ⟨w.heap.size, 1, none⟩ = some (.bool b1) ∧ W.cell? ⟨w.heap.size, 2, none⟩ = some (.bool b2) ∧ W.cell? ⟨w.heap.size, 3, none⟩ = some (.bool b3)) (first | exact ⟨c0, c1, c2, c3⟩ | exact ⟨bcellA B3 c0, bcellA B3 c1, bcellA B3 c2, bcellA B3 c3⟩) (first | (go_at_call 11; refine (sensor_Barrier.calls Aw2 kw2 [x] true b0 b1 b2 b3 _ (Kd.C_drew Cw2.out) Kw2.out hxb'.out).mono ?_; rintro e w3 ⟨rfl, hb3⟩; have B3 := Aside0.mk (of_drew hb3); clear hb3))
      go_wp2_with fail
      go_meet
      case rel => exact ⟨rfl, B3⟩
    · obtain rfl : p = [] := List.eq_nil_of_length_eq_zero (by omega)
      go_quiet (fail)
      go_wp2_with fail
      go_meet
      case rel => exact ⟨rfl, ⟨by repeat (first | exact Below.refl _ _ | apply pw_below_drewN | apply below_drew)⟩⟩
  case rest =>
    obtain ⟨rfl, hb⟩ := hcut
    obtain ⟨w3, rfl⟩ : ∃ x : World, x = wc := ⟨_, rfl⟩
    have B3 := btrans B2 hb
    have HGn := Aside0.mk (heap_below hb HG.out)
    clear HG
    have HG := HGn
    clear HGn
    clear hb P0 Kw2 Cw2 B1 B2
    have c0 : World.cell? w3 ⟨w.heap.size, 0, none⟩ = some (.bool b0) := cell_of_heap HG.out 0
    have c1 : World.cell? w3 ⟨w.heap.size, 1, none⟩ = some (.bool b1) := cell_of_heap HG.out 1
    have c2 : World.cell? w3 ⟨w.heap.size, 2, none⟩ = some (.bool b2) := cell_of_heap HG.out 2
    have c3 : World.cell? w3 ⟨w.heap.size, 3, none⟩ = some (.bool b3) := cell_of_heap HG.out 3
    have c4 : World.cell? w3 ⟨w.heap.size, 4, none⟩ = some (.bool su) := cell_of_heap HG.out 4
    have c5 : World.cell? w3 ⟨w.heap.size, 5, none⟩ = some (.bool la) := cell_of_heap HG.out 5
    have c6 : World.cell? w3 ⟨w.heap.size, 6, none⟩ = some (.bool ob) := cell_of_heap HG.out 6
    have c7 : World.cell? w3 ⟨w.heap.size, 7, none⟩ = some (.int .i64 mo) := cell_of_heap HG.out 7
    have c8 : World.cell? w3 ⟨w.heap.size, 8, none⟩ = some (.bool ma) := cell_of_heap HG.out 8
    have c9 : World.cell? w3 ⟨w.heap.size, 9, none⟩ = some (.bool ba) := cell_of_heap HG.out 9
    have c10 : World.cell? w3 ⟨w.heap.size, 10, none⟩ = some (.int .i64 ro) := cell_of_heap HG.out 10
    have c11 : World.cell? w3 ⟨w.heap.size, 11, none⟩ = some (.slice A tr.length c) := cell_of_heap HG.out 11
    go_wp2_with fail
    refine (prt_calls _ _ _ _ _ _ _ _ _ _ _ _ _ _ 4 _ _ (Kd.C_below HR.out B3.out) HC.out (prt4 ⟨b0, b1, b2, b3, su, la, ob, mo, ma, ba, ro, tr⟩)).mono ?_
    rintro e w4 ⟨Aw4, kw4, rfl, hk, hC, hb⟩
    have Kw4 := Aside0.mk hk
    have Cw4 := Aside0.mk hC
    clear c0 c1 c2 c3 c4 c5 c6 c7 c8 c9 c10 c11
    have B4 := btrans B3 hb
    have HGn := Aside0.mk (heap_below hb HG.out)
    clear HG
    have HG := HGn
    clear HGn
    clear hb hk hC
    go_wp2_with fail
    refine (sensor_Power.calls Aw4 kw4 _ true ma ba _ Cw4.out Kw4.out (power_back ma ba)).mono ?_
    rintro e w5 ⟨rfl, hb5⟩
    have hb := Aside0.mk hb5.below
    clear hb5
    have B5 := btrans B4 hb
    have HGn := Aside0.mk (heap_below hb HG.out)
    clear HG
    have HG := HGn
    clear HGn
    clear hb Kw4 Cw4 B3 B4
    go_upto_region 8 with fail
    go_cut [59] (fun v W => v = .bool false ∧ Aside0 (Below w5.heap.size w5 W))
    case first =>
      have c0 : World.cell? w5 ⟨w.heap.size, 0, none⟩ = some (.bool b0) := cell_of_heap HG.out 0
      have c1 : World.cell? w5 ⟨w.heap.size, 1, none⟩ = some (.bool b1) := cell_of_heap HG.out 1
      have c2 : World.cell? w5 ⟨w.heap.size, 2, none⟩ = some (.bool b2) := cell_of_heap HG.out 2
      have c3 : World.cell? w5 ⟨w.heap.size, 3, none⟩ = some (.bool b3) := cell_of_heap HG.out 3
      have c4 : World.cell? w5 ⟨w.heap.size, 4, none⟩ = some (.bool su) := cell_of_heap HG.out 4
      have c5 : World.cell? w5 ⟨w.heap.size, 5, none⟩ = some (.bool la) := cell_of_heap HG.out 5
      have c6 : World.cell? w5 ⟨w.heap.size, 6, none⟩ = some (.bool ob) := cell_of_heap HG.out 6
      have c7 : World.cell? w5 ⟨w.heap.size, 7, none⟩ = some (.int .i64 mo) := cell_of_heap HG.out 7
      have c8 : World.cell? w5 ⟨w.heap.size, 8, none⟩ = some (.bool ma) := cell_of_heap HG.out 8
      have c9 : World.cell? w5 ⟨w.heap.size, 9, none⟩ = some (.bool ba) := cell_of_heap HG.out 9
      have c10 : World.cell? w5 ⟨w.heap.size, 10, none⟩ = some (.int .i64 ro) := cell_of_heap HG.out 10
      have c11 : World.cell? w5 ⟨w.heap.size, 11, none⟩ = some (.slice A tr.length c) := cell_of_heap HG.out 11
      have BW := B5
      go_region_held3 (fun W => Aside0 (Below w.heap.size w W) ∧ W.cell? ⟨w.heap.size, 0, none⟩ = some (.bool b0) ∧ W.cell? ⟨w.heap.size, 1, none⟩ = some (.bool b1) ∧ W.cell? ⟨w.heap.size, 2, none⟩ = some (.bool b2) ∧ W.cell? ⟨w.heap.size, 3, none⟩ = some (.bool b3) ∧ W.cell? ⟨w.heap.size, 4, none⟩ = some (.bool su) ∧ W.cell? ⟨w.heap.size, 5, none⟩ = some (.bool la) ∧ W.cell? ⟨w.heap.size, 6, none⟩ = some (.bool ob) ∧ W.cell? ⟨w.heap.size, 7, none⟩ = some (.int .i64 mo) ∧ W.cell? ⟨w.heap.size, 8, none⟩ = some (.bool ma) ∧ W.cell? ⟨w.heap.size, 9, none⟩ = some (.bool ba) ∧ W.cell? ⟨w.heap.size, 10, none⟩ = some (.int .i64 ro) ∧ W.cell? ⟨w.heap.size, 11, none⟩ = some (.slice A tr.length c)) (first | exact ⟨⟨below_drew BW.out⟩, c0, c1, c2, c3, c4, c5, c6, c7, c8, c9, c10, c11⟩ | exact ⟨btrans BW D6, bcellA D6 c0, bcellA D6 c1, bcellA D6 c2, bcellA D6 c3, bcellA D6 c4, bcellA D6 c5, bcellA D6 c6, bcellA D6 c7, bcellA D6 c8, bcellA D6 c9, bcellA D6 c10, bcellA D6 c11⟩ | exact ⟨btrans BW D7, bcellA D7 c0, bcellA D7 c1, bcellA D7 c2, bcellA D7 c3, bcellA D7 c4, bcellA D7 c5, bcellA D7 c6, bcellA D7 c7, bcellA D7 c8, bcellA D7 c9, bcellA D7 c10, bcellA D7 c11⟩ | exact ⟨btrans BW D8, bcellA D8 c0, bcellA D8 c1, bcellA D8 c2, bcellA D8 c3, bcellA D8 c4, bcellA D8 c5, bcellA D8 c6, bcellA D8 c7, bcellA D8 c8, bcellA D8 c9, bcellA D8 c10, bcellA D8 c11⟩ | exact ⟨btrans BW D9, bcellA D9 c0, bcellA D9 c1, bcellA D9 c2, bcellA D9 c3, bcellA D9 c4, bcellA D9 c5, bcellA D9 c6, bcellA D9 c7, bcellA D9 c8, bcellA D9 c9, bcellA D9 c10, bcellA D9 c11⟩ | fail) (first
        | (go_at_call 23; (with_reducible refine (prt_calls _ _ _ _ _ _ _ _ _ _ _ _ _ _ 1 _ _ ?hR HC.out (prt1 ⟨b0, b1, b2, b3, su, la, ob, mo, ma, ba, ro, tr⟩)).mono ?_); (case hR => exact Kd.C_below HR.out (by first | exact (below_drew B5.out) | exact B5.out)); rintro e w6 ⟨A6, k6, rfl, hk6, hC6, b6⟩; have K6 := Aside0.mk hk6; have C6 := Aside0.mk hC6; have D6 := Aside0.mk (of_drew b6.out); clear hk6 hC6 b6)
        | (go_at_call 13; refine (sensor_Lamps.calls A6 k6 _ true la _ C6.out K6.out (lamps_back la)).mono ?_; rintro e w7 ⟨rfl, b7⟩; have D7 := btrans D6 (Aside0.mk b7.below); clear b7)
        | (go_at_call 23; (with_reducible refine (prt_calls _ _ _ _ _ _ _ _ _ _ _ _ _ _ 2 _ _ ?hR HC.out (prt2 ⟨b0, b1, b2, b3, su, la, ob, mo, ma, ba, ro, tr⟩)).mono ?_); (case hR => exact Kd.C_below HR.out (btrans B5 D7).out); rintro e w8 ⟨A8, k8, rfl, hk8, hC8, b8⟩; have K8 := Aside0.mk hk8; have C8 := Aside0.mk hC8; have D8 := btrans D7 b8; clear hk8 hC8 b8)
        | (go_at_call 15; refine (sensor_Obstacle.calls A8 k8 _ true ob _ C8.out K8.out (obst_back ob)).mono ?_; rintro e w9 ⟨rfl, b9⟩; have D9 := btrans D8 (Aside0.mk b9.below); clear b9))
      go_wp2_with fail
      go_meet
      case rel => exact ⟨rfl, D9⟩
    case rest =>
      obtain ⟨rfl, hb⟩ := hcut
      obtain ⟨w6, rfl⟩ : ∃ x : World, x = wc := ⟨_, rfl⟩
      have B6 := btrans B5 hb
      have HGn := Aside0.mk (heap_below hb HG.out)
      clear HG
      have HG := HGn
      clear HGn
      clear hb B5
      have c0 : World.cell? w6 ⟨w.heap.size, 0, none⟩ = some (.bool b0) := cell_of_heap HG.out 0
      have c1 : World.cell? w6 ⟨w.heap.size, 1, none⟩ = some (.bool b1) := cell_of_heap HG.out 1
      have c2 : World.cell? w6 ⟨w.heap.size, 2, none⟩ = some (.bool b2) := cell_of_heap HG.out 2
      have c3 : World.cell? w6 ⟨w.heap.size, 3, none⟩ = some (.bool b3) := cell_of_heap HG.out 3
      have c4 : World.cell? w6 ⟨w.heap.size, 4, none⟩ = some (.bool su) := cell_of_heap HG.out 4
      have c5 : World.cell? w6 ⟨w.heap.size, 5, none⟩ = some (.bool la) := cell_of_heap HG.out 5
      have c6 : World.cell? w6 ⟨w.heap.size, 6, none⟩ = some (.bool ob) := cell_of_heap HG.out 6
      have c7 : World.cell? w6 ⟨w.heap.size, 7, none⟩ = some (.int .i64 mo) := cell_of_heap HG.out 7
      have c8 : World.cell? w6 ⟨w.heap.size, 8, none⟩ = some (.bool ma) := cell_of_heap HG.out 8
      have c9 : World.cell? w6 ⟨w.heap.size, 9, none⟩ = some (.bool ba) := cell_of_heap HG.out 9
      have c10 : World.cell? w6 ⟨w.heap.size, 10, none⟩ = some (.int .i64 ro) := cell_of_heap HG.out 10
      have c11 : World.cell? w6 ⟨w.heap.size, 11, none⟩ = some (.slice A tr.length c) := cell_of_heap HG.out 11
      go_wp2_with fail
      refine (prt_calls _ _ _ _ _ _ _ _ _ _ _ _ _ _ 3 _ _ (Kd.C_below HR.out B6.out) HC.out ((prt3 ⟨b0, b1, b2, b3, su, la, ob, mo, ma, ba, ro, tr⟩).trans (number_isB mo 3))).mono ?_
      rintro e w7 ⟨Aw7, kw7, rfl, hk, hC, hb⟩
      have Kw7 := Aside0.mk hk
      have Cw7 := Aside0.mk hC
      clear c0 c1 c2 c3 c4 c5 c6 c7 c8 c9 c10 c11
      have B7 := btrans B6 hb
      have HGn := Aside0.mk (heap_below hb HG.out)
      clear HG
      have HG := HGn
      clear HGn
      clear hb hk hC
      clear B6
      have c0 : World.cell? w7 ⟨w.heap.size, 0, none⟩ = some (.bool b0) := cell_of_heap HG.out 0
      have c1 : World.cell? w7 ⟨w.heap.size, 1, none⟩ = some (.bool b1) := cell_of_heap HG.out 1
      have c2 : World.cell? w7 ⟨w.heap.size, 2, none⟩ = some (.bool b2) := cell_of_heap HG.out 2
      have c3 : World.cell? w7 ⟨w.heap.size, 3, none⟩ = some (.bool b3) := cell_of_heap HG.out 3
      have c4 : World.cell? w7 ⟨w.heap.size, 4, none⟩ = some (.bool su) := cell_of_heap HG.out 4
      have c5 : World.cell? w7 ⟨w.heap.size, 5, none⟩ = some (.bool la) := cell_of_heap HG.out 5
      have c6 : World.cell? w7 ⟨w.heap.size, 6, none⟩ = some (.bool ob) := cell_of_heap HG.out 6
      have c7 : World.cell? w7 ⟨w.heap.size, 7, none⟩ = some (.int .i64 mo) := cell_of_heap HG.out 7
      have c8 : World.cell? w7 ⟨w.heap.size, 8, none⟩ = some (.bool ma) := cell_of_heap HG.out 8
      have c9 : World.cell? w7 ⟨w.heap.size, 9, none⟩ = some (.bool ba) := cell_of_heap HG.out 9
      have c10 : World.cell? w7 ⟨w.heap.size, 10, none⟩ = some (.int .i64 ro) := cell_of_heap HG.out 10
      have c11 : World.cell? w7 ⟨w.heap.size, 11, none⟩ = some (.slice A tr.length c) := cell_of_heap HG.out 11
      go_wp2_with fail
      refine (prt_calls _ _ _ _ _ _ _ _ _ _ _ _ _ _ 5 _ _ (Kd.C_below HR.out B7.out) HC.out ((prt5 ⟨b0, b1, b2, b3, su, la, ob, mo, ma, ba, ro, tr⟩).trans (number_isB ro 256))).mono ?_
      rintro e w8 ⟨Aw8, kw8, rfl, hk, hC, hb⟩
      have Kw8 := Aside0.mk hk
      have Cw8 := Aside0.mk hC
      clear c0 c1 c2 c3 c4 c5 c6 c7 c8 c9 c10 c11
      have B8 := btrans B7 hb
      have HGn := Aside0.mk (heap_below hb HG.out)
      clear HG
      have HG := HGn
      clear HGn
      have Cw7n := Aside0.mk (Kd.C_below Cw7.out hb.out)
      clear Cw7
      have Cw7 := Cw7n
      clear Cw7n
      clear hb hk hC
      clear B7
      obtain ⟨pm, hpm0⟩ : ∃ p, p = numB mo 3 := ⟨_, rfl⟩
      obtain ⟨pr, hpr0⟩ : ∃ p, p = numB ro 256 := ⟨_, rfl⟩
      rw [← hpm0] at Cw7 Kw7 ⊢
      rw [← hpr0] at Cw8 Kw8 ⊢
      have hpm := Aside0.mk hpm0
      have hpr := Aside0.mk hpr0
      clear hpm0 hpr0
      go_upto_region 12 with fail
      go_cut [85] (fun v W => v = .bool false ∧ Aside0 (Below w8.heap.size w8 W))
      case first =>
        have c4 : World.cell? w8 ⟨w.heap.size, 7, none⟩ = some (.int .i64 mo) := cell_of_heap HG.out 7
        have c7 : World.cell? w8 ⟨w.heap.size, 10, none⟩ = some (.int .i64 ro) := cell_of_heap HG.out 10
        have D8 : Aside0 (Below w8.heap.size w8 w8) := ⟨Below.refl _ _⟩
        by_cases m0 : 0 ≤ mo ∧ mo < 3 <;> by_cases r0 : 0 ≤ ro ∧ ro < 256
        · obtain rfl : pm = [mo % 256] := hpm.out.trans (numB_pos m0)
          obtain rfl : pr = [ro % 256] := hpr.out.trans (numB_pos r0)
          have MB := Aside0.mk (mode_back mo m0.1 m0.2)
          have RB := Aside0.mk (routes_back ro r0.1 r0.2)
          clear m0 r0 hpm hpr
          go_region_held3 (fun W => W.cell? ⟨w.heap.size, 7, none⟩ = some (.int .i64 mo) ∧ W.cell? ⟨w.heap.size, 10, none⟩ = some (.int .i64 ro)) (first | exact ⟨c4, c7⟩ | exact ⟨bcellA D9 c4, bcellA D9 c7⟩ | exact ⟨bcellA D10 c4, bcellA D10 c7⟩ | fail) (first | (go_at_call 17; refine (sensor_Mode.calls Aw7 kw7 _ true mo _ (Kd.C_drew Cw7.out) Kw7.out MB.out).mono ?_; rintro e w9 ⟨rfl, hb9⟩; have D9 := Aside0.mk (of_drew hb9.below); clear hb9) | (go_at_call 19; refine (sensor_Routes.calls Aw8 kw8 _ true 8 ro _ (Kd.C_below Cw8.out D9.out) Kw8.out RB.out).mono ?_; rintro e w10 ⟨rfl, hb9⟩; have D10 := btrans D9 (Aside0.mk hb9); clear hb9))
          go_wp2_with fail
          go_meet
          case rel => exact ⟨rfl, D10⟩
        · obtain rfl : pm = [mo % 256] := hpm.out.trans (numB_pos m0)
          obtain rfl : pr = [] := hpr.out.trans (numB_neg r0)
          have MB := Aside0.mk (mode_back mo m0.1 m0.2)
          clear m0 r0 hpm hpr
          go_quiet ((go_at_call 17; exact Calls.quiet_of ((sensor_Mode.calls Aw7 kw7 _ true mo _ (Kd.C_drewN Cw7.out _) Kw7.out MB.out).mono fun _ _ ⟨h, hd⟩ => ⟨h, hd.out⟩)))
          go_wp2_with fail
          go_meet
          case rel => exact ⟨rfl, ⟨by repeat (first | exact Below.refl _ _ | apply pw_below_drewN | apply below_drew)⟩⟩
        · obtain rfl : pm = [] := hpm.out.trans (numB_neg m0)
          obtain rfl : pr = [ro % 256] := hpr.out.trans (numB_pos r0)
          have RB := Aside0.mk (routes_back ro r0.1 r0.2)
          clear m0 r0 hpm hpr
          go_quiet ((go_at_call 19; exact Calls.quiet_of ((routes_quiet Aw8 kw8 _ true 8 ro _ (Kd.C_drewN Cw8.out _) Kw8.out RB.out).mono fun _ _ ⟨h, hd⟩ => ⟨h, hd.out⟩)))
          go_wp2_with fail
          go_meet
          case rel => exact ⟨rfl, ⟨by repeat (first | exact Below.refl _ _ | apply pw_below_drewN | apply below_drew)⟩⟩
        · obtain rfl : pm = [] := hpm.out.trans (numB_neg m0)
          obtain rfl : pr = [] := hpr.out.trans (numB_neg r0)
          clear m0 r0 hpm hpr
          go_quiet (fail)
          go_wp2_with fail
          go_meet
          case rel => exact ⟨rfl, ⟨by repeat (first | exact Below.refl _ _ | apply pw_below_drewN | apply below_drew)⟩⟩
      case rest =>
        obtain ⟨rfl, hb⟩ := hcut
        obtain ⟨w9, rfl⟩ : ∃ x : World, x = wc := ⟨_, rfl⟩
        have B9 := btrans B8 hb
        have HGn := Aside0.mk (heap_below hb HG.out)
        clear HG
        have HG := HGn
        clear HGn
        clear hb B8 Kw7 Cw7 Kw8 Cw8
        go_wp2_with fail
        go_loopw [8] (fun i W => ∃ k : Nat, k ≤ tr.length ∧ i = .int .i64 k ∧ Aside0 (Below w9.heap.size w9 W)) (fun i _ => tr.length - (intOf i).toNat)
        case atStart => exact ⟨0, by omega, rfl, ⟨Below.refl _ _⟩⟩
        case round =>
          obtain ⟨k, hk, rfl, hb⟩ := hrel
          have BR := btrans B9 hb
          have BZ := hb
          have HGr := Aside0.mk (heap_below hb HG.out)
          clear HG
          clear hb
          have HG := HGr
          clear HGr
          have c0 : World.cell? wr ⟨w.heap.size, 0, none⟩ = some (.bool b0) := cell_of_heap HG.out 0
          have c1 : World.cell? wr ⟨w.heap.size, 1, none⟩ = some (.bool b1) := cell_of_heap HG.out 1
          have c2 : World.cell? wr ⟨w.heap.size, 2, none⟩ = some (.bool b2) := cell_of_heap HG.out 2
          have c3 : World.cell? wr ⟨w.heap.size, 3, none⟩ = some (.bool b3) := cell_of_heap HG.out 3
          have c4 : World.cell? wr ⟨w.heap.size, 4, none⟩ = some (.bool su) := cell_of_heap HG.out 4
          have c5 : World.cell? wr ⟨w.heap.size, 5, none⟩ = some (.bool la) := cell_of_heap HG.out 5
          have c6 : World.cell? wr ⟨w.heap.size, 6, none⟩ = some (.bool ob) := cell_of_heap HG.out 6
          have c7 : World.cell? wr ⟨w.heap.size, 7, none⟩ = some (.int .i64 mo) := cell_of_heap HG.out 7
          have c8 : World.cell? wr ⟨w.heap.size, 8, none⟩ = some (.bool ma) := cell_of_heap HG.out 8
          have c9 : World.cell? wr ⟨w.heap.size, 9, none⟩ = some (.bool ba) := cell_of_heap HG.out 9
          have c10 : World.cell? wr ⟨w.heap.size, 10, none⟩ = some (.int .i64 ro) := cell_of_heap HG.out 10
          have c11 : World.cell? wr ⟨w.heap.size, 11, none⟩ = some (.slice A tr.length c) := cell_of_heap HG.out 11
          by_cases hlt : k < tr.length
          · obtain ⟨ad, e136, h0, h1, h2, h3, h4⟩ := at_T33 HR.out k (by omega) (by omega)
            subst e136
            rw [Int.toNat_natCast] at h0 h1 h2 h3 h4
            have PT := Aside0.mk (prtT ⟨b0, b1, b2, b3, su, la, ob, mo, ma, ba, ro, tr⟩ k hlt (by omega))
            have TB := Aside0.mk (trackB_back (rd_T33 tr k))
            obtain ⟨x, hx⟩ : ∃ x, x = rd_T33 tr (k : Int) := ⟨_, rfl⟩
            have PT : Aside0 (Inp.prt ⟨b0, b1, b2, b3, su, la, ob, mo, ma, ba, ro, tr⟩ (8 + (k : Int)) = some (trackB x)) := ⟨by rw [hx]; exact PT.out⟩
            rw [← hx] at TB h0 h1 h2 h3 h4
            clear hx
            obtain ⟨f0, f1, f2, f3, f4⟩ := x
            have T0 := Aside0.mk (bcellA BR h0)
            have T1 := Aside0.mk (bcellA BR h1)
            have T2 := Aside0.mk (bcellA BR h2)
            have T3 := Aside0.mk (bcellA BR h3)
            have T4 := Aside0.mk (bcellA BR h4)
            clear h0 h1 h2 h3 h4
            have HRa := HR
            go_wp2_with fail
            refine (prt_calls _ _ _ _ _ _ _ _ _ _ _ _ _ _ (8 + (k : Int)) _ _ (Kd.C_below HR.out BR.out) HC.out PT.out).mono ?_
            rintro e w10 ⟨A10, k10, rfl, hk10, hC10, hb⟩
            have K10 := Aside0.mk hk10
            have C10 := Aside0.mk hC10
            have B10 := btrans BR hb
            have BY := btrans BZ hb
            have HGn := Aside0.mk (heap_below hb HG.out)
            have t0 := bcellA hb T0.out
            have t1 := bcellA hb T1.out
            have t2 := bcellA hb T2.out
            have t3 := bcellA hb T3.out
            have t4 := bcellA hb T4.out
            clear hk10 hC10 hb T0 T1 T2 T3 T4 PT HG
            have HG := HGn
            clear HGn
            clear c0 c1 c2 c3 c4 c5 c6 c7 c8 c9 c10 c11
            obtain ⟨pt, hpt0⟩ : ∃ p, p = trackB ⟨f0, f1, f2, f3, f4⟩ := ⟨_, rfl⟩
            rw [← hpt0] at TB K10 C10 ⊢
            clear hpt0
            go_upto_region 18 with fail
            have c11 : World.cell? w10 ⟨w.heap.size, 11, none⟩ = some (.slice (some ad) tr.length c) := cell_of_heap HG.out 11
            have k0 : (0 : Int) ≤ (k : Int) := by omega
            have k1 : (k : Int) < (tr.length : Int) := by omega
            go_cut [109] (fun v W => v = .bool false ∧ Aside0 (Below w10.heap.size w10 W))
            case first =>
              by_cases hz : 0 < pt.length
              · obtain ⟨hp1, hp2⟩ := TB.out hz
                subst hp1
                have CB := Aside0.mk hp2
                clear hp2 hz TB
                go_region_held3 (fun W => W.cell? ⟨w.heap.size, 11, none⟩ = some (.slice (some ad) tr.length c) ∧ W.cell? (ad.add (k * 5)) = some (.bool f0) ∧ W.cell? ⟨(ad.add (k * 5)).block, (ad.add (k * 5)).off + 1, none⟩ = some (.int .i64 f1) ∧ W.cell? ⟨(ad.add (k * 5)).block, (ad.add (k * 5)).off + 2, none⟩ = some (.int .i64 f2) ∧ W.cell? ⟨(ad.add (k * 5)).block, (ad.add (k * 5)).off + 3, none⟩ = some (.int .i64 f3) ∧ W.cell? ⟨(ad.add (k * 5)).block, (ad.add (k * 5)).off + 4, none⟩ = some (.int .i64 f4)) (first | exact ⟨c11, t0, t1, t2, t3, t4⟩ | exact ⟨bcellA D11 c11, bcellA D11 t0, bcellA D11 t1, bcellA D11 t2, bcellA D11 t3, bcellA D11 t4⟩ | fail) (first | (go_at_call 21; refine (sensor_Counts.calls A10 k10 [f1, f2, f3, f4] true f0 f1 f2 f3 f4 _ (Kd.C_drew C10.out) K10.out CB.out).mono ?_; rintro e w11 ⟨rfl, hb9⟩; have D11 := Aside0.mk (of_drew hb9); clear hb9))
                go_wp2_with fail
                go_meet
                case rel => exact ⟨rfl, D11⟩
              · obtain rfl : pt = [] := List.eq_nil_of_length_eq_zero (by omega)
                go_quiet (fail)
                go_wp2_with fail
                go_meet
                case rel => exact ⟨rfl, ⟨by repeat (first | exact Below.refl _ _ | apply pw_below_drewN | apply below_drew)⟩⟩
            case rest =>
              obtain ⟨rfl, hb⟩ := hcut
              obtain ⟨w12, rfl⟩ : ∃ x : World, x = wc := ⟨_, rfl⟩
              have BX := btrans BY hb
              clear c11 t0 t1 t2 t3 t4 TB K10 C10
              go_wp2_with fail
              go_roundw
              case rel => exact ⟨k + 1, by omega, by go_num, BX⟩
              case measure => simp [intOf]; omega
          · have hke : k = tr.length := by omega
            subst hke
            go_wp2
            go_ret
            exact ⟨rfl, BR.out⟩
end Go.Proofs.Ythefjcpddiggkaa.PS
