/- What the sensor's functions return of any bytes: as functions that always answer. -/
import Derived.Test.YtfijlaahifeimaaDoorPSx3
import Derived.Test.YtfijlaahifeimaaDoorPSx4
import Derived.Deep.RegionHeld3
import Derived.Test.YtfijlaahifeimaaDoorMA
namespace Go.Proofs.YtfijlaahifeimaaDoor.PS
open Go.RowKit Go.Proofs.YtfijlaahifeimaaDoorW.PrintWords Go.Proofs.YtfijlaahifeimaaDoorW.PrintLast Go.Proofs.YtfijlaahifeimaaDoorW.PrintMore
set_option linter.unusedVariables false
set_option linter.unusedSimpArgs false
theorem some_getD {α : Type} {o : Option α} (d : α) (h : o.isSome = true) : o = some (o.getD d) := by cases o with | none => simp at h | some x => rfl
theorem single_some (l : List Int) (ok : Bool) (b : Int) : ∃ p, sensor_single.f l ok b = some p := by
  unfold sensor_single.f
  by_cases h : ok = true
  · rw [if_pos h]
    by_cases h1 : (l.length : Int) = 1
    · rw [if_pos h1, if_pos (by omega)]
      by_cases h2 : wrap64 (rd l 0) ≥ b
      · rw [if_pos h2]; exact ⟨_, rfl⟩
      · rw [if_neg h2]; exact ⟨_, rfl⟩
    · rw [if_neg h1]; exact ⟨_, rfl⟩
  · rw [if_neg h]; exact ⟨_, rfl⟩
theorem sure_some (a b : Bool) : ∃ p, sensor_sure.f a b = some p := by cases a <;> cases b <;> exact ⟨_, rfl⟩
def sBar (l : List Int) (ok : Bool) : Bool × Bool × Bool × Bool := (sensor_Barrier.f l ok).getD (false, false, false, false)
theorem sBar_eq (l : List Int) (ok : Bool) : sensor_Barrier.f l ok = some ((sBar l ok).1, (sBar l ok).2.1, (sBar l ok).2.2.1, (sBar l ok).2.2.2) := by
  refine some_getD _ ?_
  unfold sensor_Barrier.f
  obtain ⟨p, hp⟩ := single_some l ok 16
  rw [hp, Option.bind_some]
  unfold sensor_set.f
  rw [if_pos (by decide), if_pos (by decide), if_pos (by decide), if_pos (by decide)]
  simp only [Option.bind_some]
  obtain ⟨q, hq⟩ := sure_some (Go.bits .and .i64 (shr .i64 p.1 0) 1 == 1) (Go.bits .and .i64 (shr .i64 p.1 1) 1 == 1)
  rw [hq, Option.bind_some]
  obtain ⟨r, hr⟩ := sure_some (Go.bits .and .i64 (shr .i64 p.1 2) 1 == 1) (Go.bits .and .i64 (shr .i64 p.1 3) 1 == 1)
  rw [hr, Option.bind_some]
  rfl
def sLamps (l : List Int) (ok : Bool) : Bool := (sensor_Lamps.f l ok).getD false
theorem sLamps_eq (l : List Int) (ok : Bool) : sensor_Lamps.f l ok = some (sLamps l ok) := by
  refine some_getD _ ?_
  unfold sensor_Lamps.f
  obtain ⟨p, hp⟩ := single_some l ok 2
  rw [hp, Option.bind_some]; rfl
def sObst (l : List Int) (ok : Bool) : Bool := (sensor_Obstacle.f l ok).getD false
theorem sObst_eq (l : List Int) (ok : Bool) : sensor_Obstacle.f l ok = some (sObst l ok) := by
  refine some_getD _ ?_
  unfold sensor_Obstacle.f
  obtain ⟨p, hp⟩ := single_some l ok 1
  rw [hp, Option.bind_some]; rfl
def sMode (l : List Int) (ok : Bool) : Int := (sensor_Mode.f l ok).getD 0
theorem sMode_eq (l : List Int) (ok : Bool) : sensor_Mode.f l ok = some (sMode l ok) := by
  refine some_getD _ ?_
  unfold sensor_Mode.f
  obtain ⟨p, hp⟩ := single_some l ok 3
  rw [hp, Option.bind_some]
  by_cases h : p.2 = true
  · rw [if_pos h]; rfl
  · rw [if_neg h]; rfl
def sPower (l : List Int) (ok : Bool) : Bool × Bool := (sensor_Power.f l ok).getD (false, false)
theorem sPower_eq (l : List Int) (ok : Bool) : sensor_Power.f l ok = some ((sPower l ok).1, (sPower l ok).2) := by
  refine some_getD _ ?_
  unfold sensor_Power.f
  obtain ⟨p, hp⟩ := single_some l ok 4
  rw [hp, Option.bind_some]
  unfold sensor_set.f
  rw [if_pos (by decide), if_pos (by decide)]
  rfl
def sRoutes (l : List Int) (ok : Bool) (n : Int) : Int := (sensor_Routes.f l ok n).getD 0
theorem sRoutes_eq (l : List Int) (ok : Bool) (n : Int) : sensor_Routes.f l ok n = some (sRoutes l ok n) := by
  refine some_getD _ ?_
  unfold sensor_Routes.f
  obtain ⟨p, hp⟩ := single_some l ok (wrap64 (2 ^ (mx 0 (mn n 8)).toNat))
  rw [hp, Option.bind_some]; rfl
def sCnt (l : List Int) (ok : Bool) : S48 := let p := (sensor_Counts.f l ok).getD (false, 0, 0, 0, 0); ⟨p.1, p.2.1, p.2.2.1, p.2.2.2.1, p.2.2.2.2⟩
theorem sCnt_eq (l : List Int) (ok : Bool) : sensor_Counts.f l ok = some ((sCnt l ok).f0, (sCnt l ok).f1, (sCnt l ok).f2, (sCnt l ok).f3, (sCnt l ok).f4) := by
  refine some_getD _ ?_
  unfold sensor_Counts.f
  by_cases h : ok = true
  · rw [if_pos h]
    by_cases h1 : (l.length : Int) = 4
    · rw [if_pos h1, if_pos (by omega)]
      by_cases h2 : rd l 2 ≥ 3
      · rw [if_pos h2]; rfl
      rw [if_neg h2, if_pos (by omega)]
      by_cases h3 : rd l 3 ≥ 4
      · rw [if_pos h3]; rfl
      rw [if_neg h3, if_pos (by omega), if_pos (by omega)]; rfl
    · rw [if_neg h1]; rfl
  · rw [if_neg h]; rfl
/-- Inputs. -/
structure Inp where
  b0 : Bool
  b1 : Bool
  b2 : Bool
  b3 : Bool
  sure : Bool
  lamps : Bool
  obst : Bool
  mode : Int
  mains : Bool
  batt : Bool
  routes : Int
  tracks : List S48
/-- What is told, of what channels say. -/
def tracksOf (D : Int → List Int) (O : Int → Bool) (k : Nat) : List S48 := (List.range k).map fun i : Nat => sCnt (D (8 + (i : Int))) (O (8 + (i : Int)))
theorem tracksOf_succ (D : Int → List Int) (O : Int → Bool) (k : Nat) : tracksOf D O (k + 1) = tracksOf D O k ++ [sCnt (D (8 + (k : Int))) (O (8 + (k : Int)))] := by
  unfold tracksOf; rw [List.range_succ, List.map_append]; rfl
theorem tracksOf_len (D : Int → List Int) (O : Int → Bool) (k : Nat) : (tracksOf D O k).length = k := by simp [tracksOf]
def nowOf (D : Int → List Int) (O : Int → Bool) (su : Bool) (n : Nat) : Inp where
  b0 := (sBar (D 0) (O 0)).1
  b1 := (sBar (D 0) (O 0)).2.1
  b2 := (sBar (D 0) (O 0)).2.2.1
  b3 := (sBar (D 0) (O 0)).2.2.2
  sure := su
  lamps := sLamps (D 1) (O 1)
  obst := sObst (D 2) (O 2)
  mode := sMode (D 3) (O 3)
  mains := (sPower (D 4) (O 4)).1
  batt := (sPower (D 4) (O 4)).2
  routes := sRoutes (D 5) (O 5) n
  tracks := tracksOf D O n
/-- Its value. -/
def Inp.val (i : Inp) (v : Value) : Value := .agg #[.bool i.b0, .bool i.b1, .bool i.b2, .bool i.b3, .bool i.sure, .bool i.lamps, .bool i.obst, .int .i64 i.mode, .bool i.mains, .bool i.batt, .int .i64 i.routes, v]
end Go.Proofs.YtfijlaahifeimaaDoor.PS
/- sensor_Counts: what it returns of any bytes, by a walk. -/
namespace Go.Proofs.YtfijlaahifeimaaDoor.PS
open Go.RowKit Go.Extern.Stop Go.Stop Go.Extern Go.Proofs.YtfijlaahifeimaaDoorW.PrintWords Go.Proofs.YtfijlaahifeimaaDoorW.PrintLast Go.Proofs.YtfijlaahifeimaaDoorW.PrintMore
set_option linter.unusedVariables false
set_option linter.unusedSimpArgs false
theorem sensor_Counts_cell {w : World} {A : Option Addr} {n : Nat} {xs : List Int} (h : Kd.C (Kd.int .u8) w A n xs) (h0 : 0 < n) : ∃ ad, A = some ad ∧ ∀ i, i < n → w.cell? (ad.add i) = some (.int .u8 (rd xs i)) := by
  obtain ⟨ad, rfl, hcell⟩ := h.2.2 h0
  refine ⟨ad, rfl, fun i hi => ?_⟩
  have hl : xs.length = n := h.1
  obtain ⟨y, hy⟩ : ∃ y, xs[i]? = some y := ⟨xs[i]'(by omega), List.getElem?_eq_getElem (by omega)⟩
  obtain ⟨cs, hlen, hK, hu⟩ := hcell i y hy
  have hK' : cs = [.int .u8 y] := hK
  subst hK'
  have h2 := hu 0 _ rfl
  have e : rd xs i = y := by unfold rd; rw [Int.toNat_natCast, List.getD_eq_getElem?_getD, hy]; rfl
  have e2 : i * (Kd.int .u8).sz + 0 = i := by show i * 1 + 0 = i; omega
  rw [e2] at h2
  rw [e]
  exact h2
set_option maxHeartbeats 4000000 in
set_option maxRecDepth 100000 in
theorem sensor_Counts.calls (A0 : Option Addr) (c0 : Nat) (l0 : List Int) (a1 : Bool) (r1 : Bool) (r2 : Int) (r3 : Int) (r4 : Int) (r5 : Int) (w : World) (hr0 : Kd.C (Kd.int .u8) w A0 l0.length l0) (hc0 : l0.length ≤ c0) (h : sensor_Counts.f l0 a1 = some (r1, r2, r3, r4, r5)) :
    Calls Tryd.prog 35 #[.slice A0 l0.length c0, .bool a1] w fun e w' => e = .returned (.agg #[.bool r1, .int .i64 r2, .int .i64 r3, .int .i64 r4, .int .i64 r5]) ∧ Below w.heap.size w w' := by
  have B : Below w.heap.size w (w.alloc (.cells #[.bool false, .int .i64 0, .int .i64 0, .int .i64 0, .int .i64 0] 48)) := below_alloc (Below.refl _ _) _
  have HB := Aside0.mk B
  unfold sensor_Counts.f at h
  have zero : ∀ {a : Bool} {b c d e : Int}, some (false, (0 : Int), (0 : Int), (0 : Int), (0 : Int)) = some (a, b, c, d, e) → a = false ∧ b = 0 ∧ c = 0 ∧ d = 0 ∧ e = 0 := fun h => by injection h with h; injection h with h1 h; injection h with h2 h; injection h with h3 h; injection h with h4 h5; exact ⟨h1.symm, h2.symm, h3.symm, h4.symm, h5.symm⟩
  cases a1 with
  | false =>
    rw [if_neg (by decide)] at h
    obtain ⟨rfl, rfl, rfl, rfl, rfl⟩ := zero h
    clear h zero B hr0 hc0
    go_enter Tryd.func35, Tryd.ntmps35
    go_wp2_with fail
    exact bodyPost_ret (v := .agg #[.bool false, .int .i64 0, .int .i64 0, .int .i64 0, .int .i64 0]) (by simp [results, Tryd.results35, go_sem]) rfl ⟨rfl, HB.out⟩
  | true =>
    rw [if_pos rfl] at h
    by_cases h4 : (l0.length : Int) = 4
    · rw [if_pos h4, if_pos (by omega)] at h
      have hl : l0.length = 4 := by omega
      rw [hl] at hr0 hc0 ⊢
      obtain ⟨ad, rfl, hcell⟩ := sensor_Counts_cell hr0 (by decide)
      have HC0 := Aside0.mk (hcell 0 (by decide))
      have HC1 := Aside0.mk (hcell 1 (by decide))
      have HC2 := Aside0.mk (hcell 2 (by decide))
      have HC3 := Aside0.mk (hcell 3 (by decide))
      have e0 : rd l0 ((0 : Nat) : Int) = rd l0 0 := rfl
      have e1 : rd l0 ((1 : Nat) : Int) = rd l0 1 := rfl
      have e2 : rd l0 ((2 : Nat) : Int) = rd l0 2 := rfl
      have e3 : rd l0 ((3 : Nat) : Int) = rd l0 3 := rfl
      rw [e0] at HC0; rw [e1] at HC1; rw [e2] at HC2; rw [e3] at HC3
      generalize rd l0 0 = x0 at h HC0
      generalize rd l0 1 = x1 at h HC1
      generalize rd l0 2 = x2 at h HC2
      generalize rd l0 3 = x3 at h HC3
      clear e0 e1 e2 e3 hcell hr0
      have a0 : World.cell? (w.alloc (.cells #[.bool false, .int .i64 0, .int .i64 0, .int .i64 0, .int .i64 0] 48)) ad = some (.int .u8 x0) := by
        have e : ad.add 0 = ad := by cases ad; simp [Addr.add]
        have := pw_cell_below B HC0.out
        rwa [e] at this
      have a2 : World.cell? (w.alloc (.cells #[.bool false, .int .i64 0, .int .i64 0, .int .i64 0, .int .i64 0] 48)) ⟨ad.block, ad.off + 2, none⟩ = some (.int .u8 x2) := pw_cell_below B HC2.out
      have a3 : World.cell? (w.alloc (.cells #[.bool false, .int .i64 0, .int .i64 0, .int .i64 0, .int .i64 0] 48)) ⟨ad.block, ad.off + 3, none⟩ = some (.int .u8 x3) := pw_cell_below B HC3.out
      have a1 : World.cell? (w.alloc (.cells #[.bool false, .int .i64 0, .int .i64 0, .int .i64 0, .int .i64 0] 48)) ⟨ad.block, ad.off + 1, none⟩ = some (.int .u8 x1) := pw_cell_below B HC1.out
      by_cases c2 : x2 ≥ 3
      · rw [if_pos c2] at h
        obtain ⟨rfl, rfl, rfl, rfl, rfl⟩ := zero h
        have d2 : decide (3 ≤ x2) = true := decide_eq_true (by omega)
        clear h zero B c2 a0 a1 a3
        go_enter Tryd.func35, Tryd.ntmps35
        go_wp2_with fail
        exact bodyPost_ret (v := .agg #[.bool false, .int .i64 0, .int .i64 0, .int .i64 0, .int .i64 0]) (by simp [results, Tryd.results35, go_sem]) rfl ⟨rfl, HB.out⟩
      · rw [if_neg c2, if_pos (by omega)] at h
        have d2 : decide (3 ≤ x2) = false := decide_eq_false (by omega)
        by_cases c3 : x3 ≥ 4
        · rw [if_pos c3] at h
          obtain ⟨rfl, rfl, rfl, rfl, rfl⟩ := zero h
          have d3 : decide (4 ≤ x3) = true := decide_eq_true (by omega)
          clear h zero B c2 c3 a0 a1
          go_enter Tryd.func35, Tryd.ntmps35
          go_wp2_with fail
          exact bodyPost_ret (v := .agg #[.bool false, .int .i64 0, .int .i64 0, .int .i64 0, .int .i64 0]) (by simp [results, Tryd.results35, go_sem]) rfl ⟨rfl, HB.out⟩
        · rw [if_neg c3, if_pos (by omega), if_pos (by omega)] at h
          injection h with h; injection h with h1 h; injection h with h2 h; injection h with h3 h; injection h with h4' h5
          rw [← i64_w] at h2 h3 h4' h5
          subst h1; subst h2; subst h3; subst h4'; subst h5
          have d3 : decide (4 ≤ x3) = false := decide_eq_false (by omega)
          have HH := Aside0.mk (heap_alloc_new w (.cells #[.bool false, .int .i64 0, .int .i64 0, .int .i64 0, .int .i64 0] 48))
          clear zero B c2 c3
          go_enter Tryd.func35, Tryd.ntmps35
          go_upto_region 3 with fail
          obtain ⟨w1, hw1⟩ : ∃ w1, w1 = w.alloc (.cells #[.bool false, .int .i64 0, .int .i64 0, .int .i64 0, .int .i64 0] 48) := ⟨_, rfl⟩
          rw [← hw1] at a0 a1 a2 a3 HB HH ⊢
          clear hw1
          refine wp_region_last_drew (S := (fun W => W.cell? ad = some (.int .u8 x0) ∧ W.cell? ⟨ad.block, ad.off + 1, none⟩ = some (.int .u8 x1) ∧ W.cell? ⟨ad.block, ad.off + 2, none⟩ = some (.int .u8 x2) ∧ W.cell? ⟨ad.block, ad.off + 3, none⟩ = some (.int .u8 x3))) (ds := [17]) (by kernel_rfl) ?_ (fun hHeld => ?_)
          · exact ⟨a0, a1, a2, a3⟩
          refine wpAnyLast_take (i := 0) (oi := { dst := some 25, op := Go.Op.move (Go.Operand.tmp 0), type := 44, pos := "sensor.go:78", after := #[], guard := none }) (v := ?vz0) rfl (by kernel_rfl) (by kernel_rfl) (by kernel_rfl) (by kernel_rfl) (by kernel_rfl) (fun _ _ _ h => h) (Or.inl ⟨by rfl, ?yz0⟩) (by assumption) ?rz0
          case yz0 => (((intro w hSw; (try dsimp only at hSw); go_simp) <;> with_reducible rfl))
          try simp only [put_]
          refine wpAnyLast_take (i := 1) (oi := { dst := some 26, op := Go.Op.indexAddr 44 (Go.Operand.tmp 25) (Go.Operand.const (Go.Value.int Go.IntKind.i64 0)), type := 0, pos := "sensor.go:78", after := #[{ on := 0, ground := Go.Ground.data }], guard := none }) (v := ?vz1) rfl (by kernel_rfl) (by kernel_rfl) (by kernel_rfl) (by kernel_rfl) (by kernel_rfl) (fun _ _ _ h => h) (Or.inl ⟨by rfl, ?yz1⟩) (by assumption) ?rz1
          case yz1 => (((intro w hSw; (try dsimp only at hSw); go_simp) <;> with_reducible rfl))
          try simp only [put_]
          refine wpAnyLast_take (i := 2) (oi := { dst := some 27, op := Go.Op.load 5 (Go.Operand.tmp 26), type := 5, pos := "sensor.go:78", after := #[{ on := 1, ground := Go.Ground.data }], guard := none }) (v := ?vz2) rfl (by kernel_rfl) (by kernel_rfl) (by kernel_rfl) (by kernel_rfl) (by kernel_rfl) (fun _ _ _ h => h) (Or.inl ⟨by rfl, ?yz2⟩) (by assumption) ?rz2
          case yz2 => (((intro w hSw; (try dsimp only at hSw); go_simp) <;> with_reducible rfl))
          try simp only [put_]
          refine wpAnyLast_take (i := 3) (oi := { dst := some 28, op := Go.Op.convert 5 3 (Go.Operand.tmp 27), type := 3, pos := "sensor.go:78", after := #[{ on := 2, ground := Go.Ground.data }], guard := none }) (v := ?vz3) rfl (by kernel_rfl) (by kernel_rfl) (by kernel_rfl) (by kernel_rfl) (by kernel_rfl) (fun _ _ _ h => h) (Or.inl ⟨by rfl, ?yz3⟩) (by assumption) ?rz3
          case yz3 => (((intro w hSw; (try dsimp only at hSw); go_simp) <;> with_reducible rfl))
          try simp only [put_]
          refine wpAnyLast_take (i := 4) (oi := { dst := some 29, op := Go.Op.move (Go.Operand.tmp 0), type := 44, pos := "sensor.go:78", after := #[], guard := none }) (v := ?vz4) rfl (by kernel_rfl) (by kernel_rfl) (by kernel_rfl) (by kernel_rfl) (by kernel_rfl) (fun _ _ _ h => h) (Or.inl ⟨by rfl, ?yz4⟩) (by assumption) ?rz4
          case yz4 => (((intro w hSw; (try dsimp only at hSw); go_simp) <;> with_reducible rfl))
          try simp only [put_]
          refine wpAnyLast_take (i := 5) (oi := { dst := some 30, op := Go.Op.indexAddr 44 (Go.Operand.tmp 29) (Go.Operand.const (Go.Value.int Go.IntKind.i64 1)), type := 0, pos := "sensor.go:78", after := #[{ on := 4, ground := Go.Ground.data }], guard := none }) (v := ?vz5) rfl (by kernel_rfl) (by kernel_rfl) (by kernel_rfl) (by kernel_rfl) (by kernel_rfl) (fun _ _ _ h => h) (Or.inl ⟨by rfl, ?yz5⟩) (by assumption) ?rz5
          case yz5 => (((intro w hSw; (try dsimp only at hSw); go_simp) <;> with_reducible rfl))
          try simp only [put_]
          refine wpAnyLast_take (i := 6) (oi := { dst := some 31, op := Go.Op.load 5 (Go.Operand.tmp 30), type := 5, pos := "sensor.go:78", after := #[{ on := 5, ground := Go.Ground.data }], guard := none }) (v := ?vz6) rfl (by kernel_rfl) (by kernel_rfl) (by kernel_rfl) (by kernel_rfl) (by kernel_rfl) (fun _ _ _ h => h) (Or.inl ⟨by rfl, ?yz6⟩) (by assumption) ?rz6
          case yz6 => (((intro w hSw; (try dsimp only at hSw); go_simp) <;> with_reducible rfl))
          try simp only [put_]
          refine wpAnyLast_take (i := 7) (oi := { dst := some 32, op := Go.Op.convert 5 3 (Go.Operand.tmp 31), type := 3, pos := "sensor.go:78", after := #[{ on := 6, ground := Go.Ground.data }], guard := none }) (v := ?vz7) rfl (by kernel_rfl) (by kernel_rfl) (by kernel_rfl) (by kernel_rfl) (by kernel_rfl) (fun _ _ _ h => h) (Or.inl ⟨by rfl, ?yz7⟩) (by assumption) ?rz7
          case yz7 => (((intro w hSw; (try dsimp only at hSw); go_simp) <;> with_reducible rfl))
          try simp only [put_]
          refine wpAnyLast_take (i := 8) (oi := { dst := some 33, op := Go.Op.move (Go.Operand.tmp 0), type := 44, pos := "sensor.go:78", after := #[], guard := none }) (v := ?vz8) rfl (by kernel_rfl) (by kernel_rfl) (by kernel_rfl) (by kernel_rfl) (by kernel_rfl) (fun _ _ _ h => h) (Or.inl ⟨by rfl, ?yz8⟩) (by assumption) ?rz8
          case yz8 => (((intro w hSw; (try dsimp only at hSw); go_simp) <;> with_reducible rfl))
          try simp only [put_]
          refine wpAnyLast_take (i := 9) (oi := { dst := some 34, op := Go.Op.indexAddr 44 (Go.Operand.tmp 33) (Go.Operand.const (Go.Value.int Go.IntKind.i64 2)), type := 0, pos := "sensor.go:78", after := #[{ on := 8, ground := Go.Ground.data }], guard := none }) (v := ?vz9) rfl (by kernel_rfl) (by kernel_rfl) (by kernel_rfl) (by kernel_rfl) (by kernel_rfl) (fun _ _ _ h => h) (Or.inl ⟨by rfl, ?yz9⟩) (by assumption) ?rz9
          case yz9 => (((intro w hSw; (try dsimp only at hSw); go_simp) <;> with_reducible rfl))
          try simp only [put_]
          refine wpAnyLast_take (i := 10) (oi := { dst := some 35, op := Go.Op.load 5 (Go.Operand.tmp 34), type := 5, pos := "sensor.go:78", after := #[{ on := 9, ground := Go.Ground.data }], guard := none }) (v := ?vz10) rfl (by kernel_rfl) (by kernel_rfl) (by kernel_rfl) (by kernel_rfl) (by kernel_rfl) (fun _ _ _ h => h) (Or.inl ⟨by rfl, ?yz10⟩) (by assumption) ?rz10
          case yz10 => (((intro w hSw; (try dsimp only at hSw); go_simp) <;> with_reducible rfl))
          try simp only [put_]
          refine wpAnyLast_take (i := 11) (oi := { dst := some 36, op := Go.Op.convert 5 3 (Go.Operand.tmp 35), type := 3, pos := "sensor.go:78", after := #[{ on := 10, ground := Go.Ground.data }], guard := none }) (v := ?vz11) rfl (by kernel_rfl) (by kernel_rfl) (by kernel_rfl) (by kernel_rfl) (by kernel_rfl) (fun _ _ _ h => h) (Or.inl ⟨by rfl, ?yz11⟩) (by assumption) ?rz11
          case yz11 => (((intro w hSw; (try dsimp only at hSw); go_simp) <;> with_reducible rfl))
          try simp only [put_]
          refine wpAnyLast_take (i := 12) (oi := { dst := some 37, op := Go.Op.move (Go.Operand.tmp 0), type := 44, pos := "sensor.go:78", after := #[], guard := none }) (v := ?vz12) rfl (by kernel_rfl) (by kernel_rfl) (by kernel_rfl) (by kernel_rfl) (by kernel_rfl) (fun _ _ _ h => h) (Or.inl ⟨by rfl, ?yz12⟩) (by assumption) ?rz12
          case yz12 => (((intro w hSw; (try dsimp only at hSw); go_simp) <;> with_reducible rfl))
          try simp only [put_]
          refine wpAnyLast_take (i := 13) (oi := { dst := some 38, op := Go.Op.indexAddr 44 (Go.Operand.tmp 37) (Go.Operand.const (Go.Value.int Go.IntKind.i64 3)), type := 0, pos := "sensor.go:78", after := #[{ on := 12, ground := Go.Ground.data }], guard := none }) (v := ?vz13) rfl (by kernel_rfl) (by kernel_rfl) (by kernel_rfl) (by kernel_rfl) (by kernel_rfl) (fun _ _ _ h => h) (Or.inl ⟨by rfl, ?yz13⟩) (by assumption) ?rz13
          case yz13 => (((intro w hSw; (try dsimp only at hSw); go_simp) <;> with_reducible rfl))
          try simp only [put_]
          refine wpAnyLast_take (i := 14) (oi := { dst := some 39, op := Go.Op.load 5 (Go.Operand.tmp 38), type := 5, pos := "sensor.go:78", after := #[{ on := 13, ground := Go.Ground.data }], guard := none }) (v := ?vz14) rfl (by kernel_rfl) (by kernel_rfl) (by kernel_rfl) (by kernel_rfl) (by kernel_rfl) (fun _ _ _ h => h) (Or.inl ⟨by rfl, ?yz14⟩) (by assumption) ?rz14
          case yz14 => (((intro w hSw; (try dsimp only at hSw); go_simp) <;> with_reducible rfl))
          try simp only [put_]
          refine wpAnyLast_take (i := 15) (oi := { dst := some 40, op := Go.Op.convert 5 3 (Go.Operand.tmp 39), type := 3, pos := "sensor.go:78", after := #[{ on := 14, ground := Go.Ground.data }], guard := none }) (v := ?vz15) rfl (by kernel_rfl) (by kernel_rfl) (by kernel_rfl) (by kernel_rfl) (by kernel_rfl) (fun _ _ _ h => h) (Or.inl ⟨by rfl, ?yz15⟩) (by assumption) ?rz15
          case yz15 => (((intro w hSw; (try dsimp only at hSw); go_simp) <;> with_reducible rfl))
          try simp only [put_]
          refine wpAnyLast_take (i := 16) (oi := { dst := some 41, op := Go.Op.build 48 #[(0, Go.Operand.const (Go.Value.bool true)), (1, Go.Operand.tmp 28), (2, Go.Operand.tmp 32), (3, Go.Operand.tmp 36), (4, Go.Operand.tmp 40)], type := 48, pos := "sensor.go:78", after := #[{ on := 3, ground := Go.Ground.data }, { on := 7, ground := Go.Ground.data }, { on := 11, ground := Go.Ground.data }, { on := 15, ground := Go.Ground.data }], guard := none }) (v := ?vz16) rfl (by kernel_rfl) (by kernel_rfl) (by kernel_rfl) (by kernel_rfl) (by kernel_rfl) (fun _ _ _ h => h) (Or.inl ⟨by rfl, ?yz16⟩) (by assumption) ?rz16
          case yz16 => (((intro w hSw; (try dsimp only at hSw); go_simp) <;> with_reducible rfl))
          try simp only [put_]
          refine wpAnyLast_ready (rs := [17]) (by kernel_rfl) (by simp) ?_
          refine AllReadyL.cons_last (o := { dst := none, op := Go.Op.store 48 (Go.Operand.tmp 4) (Go.Operand.tmp 41), type := 0, pos := "sensor.go:78", after := #[{ on := 16, ground := Go.Ground.data }, { on := 0, ground := Go.Ground.phase }, { on := 1, ground := Go.Ground.phase }, { on := 2, ground := Go.Ground.phase }, { on := 3, ground := Go.Ground.phase }, { on := 4, ground := Go.Ground.phase }, { on := 5, ground := Go.Ground.phase }, { on := 6, ground := Go.Ground.phase }, { on := 7, ground := Go.Ground.phase }, { on := 8, ground := Go.Ground.phase }, { on := 9, ground := Go.Ground.phase }, { on := 10, ground := Go.Ground.phase }, { on := 11, ground := Go.Ground.phase }, { on := 12, ground := Go.Ground.phase }, { on := 13, ground := Go.Ground.phase }, { on := 14, ground := Go.Ground.phase }, { on := 15, ground := Go.Ground.phase }, { on := 16, ground := Go.Ground.phase }], guard := none }) rfl (by decide) (fun K hK => ?kz17) AllReadyL.nil
          have o0 : World.cell? w1 ⟨w.heap.size, 0, none⟩ = some (.bool false) := (blk_cell HH.out 0).trans rfl
          have o1 : World.cell? w1 ⟨w.heap.size, 1, none⟩ = some (.int .i64 0) := (blk_cell HH.out 1).trans rfl
          have o2 : World.cell? w1 ⟨w.heap.size, 2, none⟩ = some (.int .i64 0) := (blk_cell HH.out 2).trans rfl
          have o3 : World.cell? w1 ⟨w.heap.size, 3, none⟩ = some (.int .i64 0) := (blk_cell HH.out 3).trans rfl
          have o4 : World.cell? w1 ⟨w.heap.size, 4, none⟩ = some (.int .i64 0) := (blk_cell HH.out 4).trans rfl
          have g0 : World.frozen? w1 ⟨w.heap.size, 0, none⟩ = false := blk_frozen HH.out 0
          have g1 : World.frozen? w1 ⟨w.heap.size, 1, none⟩ = false := blk_frozen HH.out 1
          have g2 : World.frozen? w1 ⟨w.heap.size, 2, none⟩ = false := blk_frozen HH.out 2
          have g3 : World.frozen? w1 ⟨w.heap.size, 3, none⟩ = false := blk_frozen HH.out 3
          have g4 : World.frozen? w1 ⟨w.heap.size, 4, none⟩ = false := blk_frozen HH.out 4
          have p0 : World.cell? w1.drew ⟨w.heap.size, 0, none⟩ = some (.bool false) := (blk_cell HH.out 0).trans rfl
          have p1 : World.cell? w1.drew ⟨w.heap.size, 1, none⟩ = some (.int .i64 0) := (blk_cell HH.out 1).trans rfl
          have p2 : World.cell? w1.drew ⟨w.heap.size, 2, none⟩ = some (.int .i64 0) := (blk_cell HH.out 2).trans rfl
          have p3 : World.cell? w1.drew ⟨w.heap.size, 3, none⟩ = some (.int .i64 0) := (blk_cell HH.out 3).trans rfl
          have p4 : World.cell? w1.drew ⟨w.heap.size, 4, none⟩ = some (.int .i64 0) := (blk_cell HH.out 4).trans rfl
          have f0 : World.frozen? w1.drew ⟨w.heap.size, 0, none⟩ = false := blk_frozen HH.out 0
          have f1 : World.frozen? w1.drew ⟨w.heap.size, 1, none⟩ = false := blk_frozen HH.out 1
          have f2 : World.frozen? w1.drew ⟨w.heap.size, 2, none⟩ = false := blk_frozen HH.out 2
          have f3 : World.frozen? w1.drew ⟨w.heap.size, 3, none⟩ = false := blk_frozen HH.out 3
          have f4 : World.frozen? w1.drew ⟨w.heap.size, 4, none⟩ = false := blk_frozen HH.out 4
          go_simp
          refine hK.out _ _ ?_
          clear hK K
          try simp only [put_]
          refine wpAnyLast_done (by kernel_rfl) ?_ _
          go_wp2_with fail
          obtain ⟨w2, hw2⟩ : ∃ w2, w2 = (((((w1.setCell ⟨w.heap.size, 0, none⟩ (.bool true)).setCell ⟨w.heap.size, 1, none⟩ (.int .i64 (IntKind.i64.wrap x0))).setCell ⟨w.heap.size, 2, none⟩ (.int .i64 (IntKind.i64.wrap x1))).setCell ⟨w.heap.size, 3, none⟩ (.int .i64 (IntKind.i64.wrap x2))).setCell ⟨w.heap.size, 4, none⟩ (.int .i64 (IntKind.i64.wrap x3))) := ⟨_, rfl⟩
          have H2 : w2.heap[w.heap.size]? = some (.cells #[.bool true, .int .i64 (IntKind.i64.wrap x0), .int .i64 (IntKind.i64.wrap x1), .int .i64 (IntKind.i64.wrap x2), .int .i64 (IntKind.i64.wrap x3)] 48 (0, 0)) := by
            rw [hw2]; simpa using blk_set (blk_set (blk_set (blk_set (blk_set HH.out 0 (.bool true)) 1 (.int .i64 (IntKind.i64.wrap x0))) 2 (.int .i64 (IntKind.i64.wrap x1))) 3 (.int .i64 (IntKind.i64.wrap x2))) 4 (.int .i64 (IntKind.i64.wrap x3))
          have B2 : Below w.heap.size w w2 := by
            rw [hw2]; exact ((((HB.out.setCell (Nat.le_refl _) _).setCell (Nat.le_refl _) _).setCell (Nat.le_refl _) _).setCell (Nat.le_refl _) _).setCell (Nat.le_refl _) _
          rw [← hw2]
          clear hw2
          have r0 : World.cell? w2.drew ⟨w.heap.size, 0, none⟩ = some (.bool true) := (blk_cell H2 0).trans rfl
          have r1 : World.cell? w2.drew ⟨w.heap.size, 1, none⟩ = some (.int .i64 (IntKind.i64.wrap x0)) := (blk_cell H2 1).trans rfl
          have r2 : World.cell? w2.drew ⟨w.heap.size, 2, none⟩ = some (.int .i64 (IntKind.i64.wrap x1)) := (blk_cell H2 2).trans rfl
          have r3 : World.cell? w2.drew ⟨w.heap.size, 3, none⟩ = some (.int .i64 (IntKind.i64.wrap x2)) := (blk_cell H2 3).trans rfl
          have r4 : World.cell? w2.drew ⟨w.heap.size, 4, none⟩ = some (.int .i64 (IntKind.i64.wrap x3)) := (blk_cell H2 4).trans rfl
          exact bodyPost_ret (v := .agg #[.bool true, .int .i64 (IntKind.i64.wrap x0), .int .i64 (IntKind.i64.wrap x1), .int .i64 (IntKind.i64.wrap x2), .int .i64 (IntKind.i64.wrap x3)]) (by simp only [results, Tryd.results35]; go_simp) rfl ⟨rfl, below_drew B2⟩
    · rw [if_neg h4] at h
      obtain ⟨rfl, rfl, rfl, rfl, rfl⟩ := zero h
      have d4 : ((l0.length : Int) != 4) = true := by simpa using h4
      have d4n : (l0.length != 4) = true := by simpa using (show l0.length ≠ 4 by omega)
      clear h zero B hr0 hc0 h4
      go_enter Tryd.func35, Tryd.ntmps35
      go_wp2_with fail
      exact bodyPost_ret (v := .agg #[.bool false, .int .i64 0, .int .i64 0, .int .i64 0, .int .i64 0]) (by simp [results, Tryd.results35, go_sem]) rfl ⟨rfl, HB.out⟩
end Go.Proofs.YtfijlaahifeimaaDoor.PS
/- inputs: the reference's Same of two that are the same. -/
namespace Go.Proofs.YtfijlaahifeimaaDoor.PE
open Go.RowKit Go.Extern.Stop Go.Stop Go.Extern Go.Proofs.YtfijlaahifeimaaDoorW.PrintWords Go.Proofs.YtfijlaahifeimaaDoorW.PrintLast Go.Proofs.YtfijlaahifeimaaDoorW.PrintMore Go.Proofs.YtfijlaahifeimaaDoor.PS
set_option linter.unusedVariables false
set_option linter.unusedSimpArgs false
set_option maxHeartbeats 8000000 in
set_option maxRecDepth 100000 in
theorem Same_calls (i : Inp) (A : Option Addr) (c : Nat) (A' : Option Addr) (c' : Nat) (w : World) (hl : i.tracks.length ≤ 1000000) (h : Kd.C k48 w A i.tracks.length i.tracks) (hc : i.tracks.length ≤ c) (h' : Kd.C k48 w A' i.tracks.length i.tracks) (hc' : i.tracks.length ≤ c') :
    Calls Tryd.prog 15 #[i.val (.slice A i.tracks.length c), i.val (.slice A' i.tracks.length c')] w fun e w' => e = .returned (.bool true) ∧ Below w.heap.size w w' := by
  obtain ⟨b0, b1, b2, b3, su, la, ob, mo, ma, ba, ro, tr⟩ := i
  unfold Inp.val
  dsimp only at hl h h' hc hc' ⊢
  obtain ⟨w1, hw1⟩ : ∃ w1, w1 = w.alloc (.cells #[.bool b0, .bool b1, .bool b2, .bool b3, .bool su, .bool la, .bool ob, .int .i64 mo, .bool ma, .bool ba, .int .i64 ro, .slice A tr.length c] 36) := ⟨_, rfl⟩
  obtain ⟨w2, hw2⟩ : ∃ w2, w2 = w1.alloc (.cells #[.bool b0, .bool b1, .bool b2, .bool b3, .bool su, .bool la, .bool ob, .int .i64 mo, .bool ma, .bool ba, .int .i64 ro, .slice A' tr.length c'] 36) := ⟨_, rfl⟩
  have B1 : Below w.heap.size w w1 := by rw [hw1]; exact below_alloc (Below.refl _ _) _
  have B2 : Below w.heap.size w w2 := by rw [hw2]; exact below_alloc B1 _
  have H1 : w2.heap[w.heap.size]? = some (.cells #[.bool b0, .bool b1, .bool b2, .bool b3, .bool su, .bool la, .bool ob, .int .i64 mo, .bool ma, .bool ba, .int .i64 ro, .slice A tr.length c] 36 (0, 0)) := by rw [hw2, hw1]; exact blk_alloc (heap_new w _) _
  have H2 : w2.heap[w.heap.size + 1]? = some (.cells #[.bool b0, .bool b1, .bool b2, .bool b3, .bool su, .bool la, .bool ob, .int .i64 mo, .bool ma, .bool ba, .int .i64 ro, .slice A' tr.length c'] 36 (0, 0)) := by
    rw [hw2]
    have hs : w1.heap.size = w.heap.size + 1 := by rw [hw1]; simp
    rw [← hs]; exact heap_new _ _
  have HW := Aside0.mk (And.intro hw1 hw2)
  have HB := Aside0.mk B2
  have HC1 := Aside0.mk (Kd.C_below h B2)
  have HC2 := Aside0.mk (Kd.C_below h' B2)
  have HL := Aside0.mk hl
  have p0 : World.cell? w2 ⟨w.heap.size, 0, none⟩ = some (.bool b0) := cell_of_heap H1 0
  have q0 : World.cell? w2 ⟨w.heap.size + 1, 0, none⟩ = some (.bool b0) := cell_of_heap H2 0
  have p1 : World.cell? w2 ⟨w.heap.size, 1, none⟩ = some (.bool b1) := cell_of_heap H1 1
  have q1 : World.cell? w2 ⟨w.heap.size + 1, 1, none⟩ = some (.bool b1) := cell_of_heap H2 1
  have p2 : World.cell? w2 ⟨w.heap.size, 2, none⟩ = some (.bool b2) := cell_of_heap H1 2
  have q2 : World.cell? w2 ⟨w.heap.size + 1, 2, none⟩ = some (.bool b2) := cell_of_heap H2 2
  have p3 : World.cell? w2 ⟨w.heap.size, 3, none⟩ = some (.bool b3) := cell_of_heap H1 3
  have q3 : World.cell? w2 ⟨w.heap.size + 1, 3, none⟩ = some (.bool b3) := cell_of_heap H2 3
  have p4 : World.cell? w2 ⟨w.heap.size, 4, none⟩ = some (.bool su) := cell_of_heap H1 4
  have q4 : World.cell? w2 ⟨w.heap.size + 1, 4, none⟩ = some (.bool su) := cell_of_heap H2 4
  have p5 : World.cell? w2 ⟨w.heap.size, 5, none⟩ = some (.bool la) := cell_of_heap H1 5
  have q5 : World.cell? w2 ⟨w.heap.size + 1, 5, none⟩ = some (.bool la) := cell_of_heap H2 5
  have p6 : World.cell? w2 ⟨w.heap.size, 6, none⟩ = some (.bool ob) := cell_of_heap H1 6
  have q6 : World.cell? w2 ⟨w.heap.size + 1, 6, none⟩ = some (.bool ob) := cell_of_heap H2 6
  have p7 : World.cell? w2 ⟨w.heap.size, 7, none⟩ = some (.int .i64 mo) := cell_of_heap H1 7
  have q7 : World.cell? w2 ⟨w.heap.size + 1, 7, none⟩ = some (.int .i64 mo) := cell_of_heap H2 7
  have p8 : World.cell? w2 ⟨w.heap.size, 8, none⟩ = some (.bool ma) := cell_of_heap H1 8
  have q8 : World.cell? w2 ⟨w.heap.size + 1, 8, none⟩ = some (.bool ma) := cell_of_heap H2 8
  have p9 : World.cell? w2 ⟨w.heap.size, 9, none⟩ = some (.bool ba) := cell_of_heap H1 9
  have q9 : World.cell? w2 ⟨w.heap.size + 1, 9, none⟩ = some (.bool ba) := cell_of_heap H2 9
  have p10 : World.cell? w2 ⟨w.heap.size, 10, none⟩ = some (.int .i64 ro) := cell_of_heap H1 10
  have q10 : World.cell? w2 ⟨w.heap.size + 1, 10, none⟩ = some (.int .i64 ro) := cell_of_heap H2 10
  have p11 : World.cell? w2 ⟨w.heap.size, 11, none⟩ = some (.slice A tr.length c) := cell_of_heap H1 11
  have q11 : World.cell? w2 ⟨w.heap.size + 1, 11, none⟩ = some (.slice A' tr.length c') := cell_of_heap H2 11
  clear hw1 hw2 B1 B2 H1 H2 h h' hc hc' hl
  go_enter Tryd.func15, Tryd.ntmps15
  go_upto_region 1 with fail
  rw [show (w.alloc (.cells #[.bool b0, .bool b1, .bool b2, .bool b3, .bool su, .bool la, .bool ob, .int .i64 mo, .bool ma, .bool ba, .int .i64 ro, .slice A tr.length c] 36)).alloc (.cells #[.bool b0, .bool b1, .bool b2, .bool b3, .bool su, .bool la, .bool ob, .int .i64 mo, .bool ma, .bool ba, .int .i64 ro, .slice A' tr.length c'] 36) = w2 from by rw [HW.out.2, HW.out.1]]
  go_wp2_with fail
  go_loopw [5] (fun j W => ∃ k : Nat, k ≤ tr.length ∧ j = .int .i64 k ∧ Aside0 (Below w2.heap.size w2 W)) (fun j _ => tr.length - (intOf j).toNat)
  case atStart => exact ⟨0, by omega, rfl, ⟨Below.refl _ _⟩⟩
  case round =>
    obtain ⟨k, hk, rfl, BR⟩ := hrel
    have p11r := pw_cell_below BR.out p11
    have q11r := pw_cell_below BR.out q11
    by_cases hlt : k < tr.length
    · have dk : decide (k < tr.length) = true := decide_eq_true hlt
      have hk1 : (k : Int) + 1 ≤ 1000001 := by have := HL.out; omega
      obtain ⟨ad, hA, a0, a1, a2, a3, a4⟩ := at_T48 (Kd.C_below HC1.out BR.out) (k : Int) (by omega) (by omega)
      obtain ⟨ae, hA', e0, e1, e2, e3, e4⟩ := at_T48 (Kd.C_below HC2.out BR.out) (k : Int) (by omega) (by omega)
      subst hA; subst hA'
      rw [Int.toNat_natCast] at a0 a1 a2 a3 a4 e0 e1 e2 e3 e4
      generalize rd_T48 tr (k : Int) = s at a0 a1 a2 a3 a4 e0 e1 e2 e3 e4
      obtain ⟨s0, s1, s2, s3, s4⟩ := s
      dsimp only at a0 a1 a2 a3 a4 e0 e1 e2 e3 e4
      go_upto_region 6 with fail
      refine wp_region_last_drew (S := (fun W => W.cell? ⟨w.heap.size, 11, none⟩ = some (.slice (some ad) tr.length c) ∧ W.cell? ⟨w.heap.size + 1, 11, none⟩ = some (.slice (some ae) tr.length c') ∧ W.cell? (ad.add (k * 5)) = some (.bool s0) ∧ W.cell? ⟨(ad.add (k * 5)).block, (ad.add (k * 5)).off + 1, none⟩ = some (.int .i64 s1) ∧ W.cell? ⟨(ad.add (k * 5)).block, (ad.add (k * 5)).off + 2, none⟩ = some (.int .i64 s2) ∧ W.cell? ⟨(ad.add (k * 5)).block, (ad.add (k * 5)).off + 3, none⟩ = some (.int .i64 s3) ∧ W.cell? ⟨(ad.add (k * 5)).block, (ad.add (k * 5)).off + 4, none⟩ = some (.int .i64 s4) ∧ W.cell? (ae.add (k * 5)) = some (.bool s0) ∧ W.cell? ⟨(ae.add (k * 5)).block, (ae.add (k * 5)).off + 1, none⟩ = some (.int .i64 s1) ∧ W.cell? ⟨(ae.add (k * 5)).block, (ae.add (k * 5)).off + 2, none⟩ = some (.int .i64 s2) ∧ W.cell? ⟨(ae.add (k * 5)).block, (ae.add (k * 5)).off + 3, none⟩ = some (.int .i64 s3) ∧ W.cell? ⟨(ae.add (k * 5)).block, (ae.add (k * 5)).off + 4, none⟩ = some (.int .i64 s4))) (ds := []) (by kernel_rfl) ?_ (fun hHeld => ?_)
      · exact ⟨p11r, q11r, a0, a1, a2, a3, a4, e0, e1, e2, e3, e4⟩
      refine wpAnyLast_take (i := 0) (oi := { dst := some 76, op := Go.Op.fieldAddr 36 (Go.Operand.tmp 2) 8, type := 0, pos := "ref.go:130", after := #[], guard := none }) (v := ?vz0) rfl (by kernel_rfl) (by kernel_rfl) (by kernel_rfl) (by kernel_rfl) (by kernel_rfl) (fun _ _ _ h => h) (Or.inl ⟨by rfl, ?yz0⟩) (by assumption) ?rz0
      case yz0 => (((intro w hSw; (try dsimp only at hSw); go_simp) <;> with_reducible rfl))
      try simp only [put_]
      refine wpAnyLast_take (i := 1) (oi := { dst := some 77, op := Go.Op.load 34 (Go.Operand.tmp 76), type := 34, pos := "ref.go:130", after := #[{ on := 0, ground := Go.Ground.data }], guard := none }) (v := ?vz1) rfl (by kernel_rfl) (by kernel_rfl) (by kernel_rfl) (by kernel_rfl) (by kernel_rfl) (fun _ _ _ h => h) (Or.inl ⟨by rfl, ?yz1⟩) (by assumption) ?rz1
      case yz1 => (((intro w hSw; (try dsimp only at hSw); go_simp) <;> with_reducible rfl))
      try simp only [put_]
      refine wpAnyLast_take (i := 2) (oi := { dst := some 78, op := Go.Op.move (Go.Operand.tmp 5), type := 3, pos := "ref.go:130", after := #[], guard := none }) (v := ?vz2) rfl (by kernel_rfl) (by kernel_rfl) (by kernel_rfl) (by kernel_rfl) (by kernel_rfl) (fun _ _ _ h => h) (Or.inl ⟨by rfl, ?yz2⟩) (by assumption) ?rz2
      case yz2 => (((intro w hSw; (try dsimp only at hSw); go_simp) <;> with_reducible rfl))
      try simp only [put_]
      refine wpAnyLast_take (i := 3) (oi := { dst := some 79, op := Go.Op.indexAddr 34 (Go.Operand.tmp 77) (Go.Operand.tmp 78), type := 0, pos := "ref.go:130", after := #[{ on := 1, ground := Go.Ground.data }, { on := 2, ground := Go.Ground.data }], guard := none }) (v := ?vz3) rfl (by kernel_rfl) (by kernel_rfl) (by kernel_rfl) (by kernel_rfl) (by kernel_rfl) (fun _ _ _ h => h) (Or.inl ⟨by rfl, ?yz3⟩) (by assumption) ?rz3
      case yz3 => (((intro w hSw; (try dsimp only at hSw); go_simp) <;> with_reducible rfl))
      try simp only [put_]
      refine wpAnyLast_take (i := 4) (oi := { dst := some 80, op := Go.Op.load 48 (Go.Operand.tmp 79), type := 48, pos := "ref.go:130", after := #[{ on := 3, ground := Go.Ground.data }], guard := none }) (v := ?vz4) rfl (by kernel_rfl) (by kernel_rfl) (by kernel_rfl) (by kernel_rfl) (by kernel_rfl) (fun _ _ _ h => h) (Or.inl ⟨by rfl, ?yz4⟩) (by assumption) ?rz4
      case yz4 => (((intro w hSw; (try dsimp only at hSw); go_simp) <;> with_reducible rfl))
      try simp only [put_]
      refine wpAnyLast_take (i := 5) (oi := { dst := some 81, op := Go.Op.fieldAddr 36 (Go.Operand.tmp 3) 8, type := 0, pos := "ref.go:130", after := #[], guard := none }) (v := ?vz5) rfl (by kernel_rfl) (by kernel_rfl) (by kernel_rfl) (by kernel_rfl) (by kernel_rfl) (fun _ _ _ h => h) (Or.inl ⟨by rfl, ?yz5⟩) (by assumption) ?rz5
      case yz5 => (((intro w hSw; (try dsimp only at hSw); go_simp) <;> with_reducible rfl))
      try simp only [put_]
      refine wpAnyLast_take (i := 6) (oi := { dst := some 82, op := Go.Op.load 34 (Go.Operand.tmp 81), type := 34, pos := "ref.go:130", after := #[{ on := 5, ground := Go.Ground.data }], guard := none }) (v := ?vz6) rfl (by kernel_rfl) (by kernel_rfl) (by kernel_rfl) (by kernel_rfl) (by kernel_rfl) (fun _ _ _ h => h) (Or.inl ⟨by rfl, ?yz6⟩) (by assumption) ?rz6
      case yz6 => (((intro w hSw; (try dsimp only at hSw); go_simp) <;> with_reducible rfl))
      try simp only [put_]
      refine wpAnyLast_take (i := 7) (oi := { dst := some 83, op := Go.Op.move (Go.Operand.tmp 5), type := 3, pos := "ref.go:130", after := #[], guard := none }) (v := ?vz7) rfl (by kernel_rfl) (by kernel_rfl) (by kernel_rfl) (by kernel_rfl) (by kernel_rfl) (fun _ _ _ h => h) (Or.inl ⟨by rfl, ?yz7⟩) (by assumption) ?rz7
      case yz7 => (((intro w hSw; (try dsimp only at hSw); go_simp) <;> with_reducible rfl))
      try simp only [put_]
      refine wpAnyLast_take (i := 8) (oi := { dst := some 84, op := Go.Op.indexAddr 34 (Go.Operand.tmp 82) (Go.Operand.tmp 83), type := 0, pos := "ref.go:130", after := #[{ on := 6, ground := Go.Ground.data }, { on := 7, ground := Go.Ground.data }], guard := none }) (v := ?vz8) rfl (by kernel_rfl) (by kernel_rfl) (by kernel_rfl) (by kernel_rfl) (by kernel_rfl) (fun _ _ _ h => h) (Or.inl ⟨by rfl, ?yz8⟩) (by assumption) ?rz8
      case yz8 => (((intro w hSw; (try dsimp only at hSw); go_simp) <;> with_reducible rfl))
      try simp only [put_]
      refine wpAnyLast_take (i := 9) (oi := { dst := some 85, op := Go.Op.load 48 (Go.Operand.tmp 84), type := 48, pos := "ref.go:130", after := #[{ on := 8, ground := Go.Ground.data }], guard := none }) (v := ?vz9) rfl (by kernel_rfl) (by kernel_rfl) (by kernel_rfl) (by kernel_rfl) (by kernel_rfl) (fun _ _ _ h => h) (Or.inl ⟨by rfl, ?yz9⟩) (by assumption) ?rz9
      case yz9 => (((intro w hSw; (try dsimp only at hSw); go_simp) <;> with_reducible rfl))
      try simp only [put_]
      refine wpAnyLast_take (i := 10) (oi := { dst := some 86, op := Go.Op.binOp Go.BinOp.neq 48 (Go.Operand.tmp 80) (Go.Operand.tmp 85) 48, type := 4, pos := "ref.go:130", after := #[{ on := 4, ground := Go.Ground.data }, { on := 9, ground := Go.Ground.data }], guard := none }) (v := ?vz10) rfl (by kernel_rfl) (by kernel_rfl) (by kernel_rfl) (by kernel_rfl) (by kernel_rfl) (fun _ _ _ h => h) (Or.inl ⟨by rfl, ?yz10⟩) (by assumption) ?rz10
      case yz10 => (((intro w hSw; (try dsimp only at hSw); go_simp) <;> with_reducible rfl))
      try simp only [put_]
      refine wpAnyLast_done (by kernel_rfl) ?_ _
      go_wp2_with fail
      refine ⟨⟨k + 1, hlt, rfl, ⟨below_drew BR.out⟩⟩, by simp [intOf]; omega⟩
    · have dk : decide (k < tr.length) = false := decide_eq_false hlt
      go_wp2_with fail
      go_ret
      exact ⟨rfl, below_thenB HB.out BR.out HB.out.size⟩
end Go.Proofs.YtfijlaahifeimaaDoor.PE
