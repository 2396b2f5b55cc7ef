/- frame: Decode, of the code. -/
import Derived.Test.YtnigocoanlaiiaaDoorHOpn
import Derived.Deep.RegionHeld3
namespace Go.Proofs.YtnigocoanlaiiaaDoor.PE
open Go.RowKit Go.Extern.Stop Go.Stop Go.Extern Go.Proofs.YtnigocoanlaiiaaDoorW.PrintWords Go.Proofs.YtnigocoanlaiiaaDoorW.PrintLast Go.Proofs.YtnigocoanlaiiaaDoorW.PrintMore
set_option linter.unusedVariables false
set_option linter.unusedSimpArgs false
/-- A byte of a row. -/
def at_ (x : List Int) (i : Nat) : Int := x.getD i 0
def formBad (x : List Int) : Prop := x.length < 3 ∨ 15 < at_ x 0 ∨ 16 < at_ x 2 ∨ (x.length : Int) - 3 ≠ at_ x 2
instance (x : List Int) : Decidable (formBad x) := by unfold formBad; infer_instance
/-- The number of Decode's error, and the telegram. -/
def decE (l : List Int) : Int := if openOk l = false then 3 else if formBad (openL l) then 2 else 0
def decC (l : List Int) : Int := if decE l = 0 then at_ (openL l) 0 else 0
def decQ (l : List Int) : Int := if decE l = 0 then at_ (openL l) 1 else 0
def decD (l : List Int) : List Int := if decE l = 0 then (openL l).drop 3 else []
def Bytes (l : List Int) : Prop := ∀ y ∈ l, 0 ≤ y ∧ y ≤ 255
theorem bytes_open {l : List Int} (h : Bytes l) : Bytes (openL l) := by
  unfold openL
  split
  · exact fun y hy => h y (List.mem_of_mem_take hy)
  · exact fun y hy => absurd hy (by simp)
theorem bytes_at {l : List Int} (h : Bytes l) (i : Nat) : 0 ≤ at_ l i ∧ at_ l i ≤ 255 := by
  unfold at_
  rw [List.getD_eq_getElem?_getD]
  cases hi : l[i]? with
  | none => simp
  | some y => exact h y (List.mem_of_getElem? hi)
theorem R_at {W : World} {base : Nat} {ok : Nat → Prop} {v : Value} {xs : List Int} (h : Kd.R (Kd.int .u8) 5 W base ok v xs) (h0 : 0 < xs.length) :
    ∃ g c, v = .slice (some ⟨g, 0, none⟩) xs.length c ∧ xs.length ≤ c ∧ base ≤ g ∧ g < W.heap.size ∧ ∀ i, i < xs.length → W.cell? ⟨g, i, none⟩ = some (.int .u8 (at_ xs i)) := by
  obtain ⟨A, c, rfl, hc, hC⟩ := Kd.R_reads h
  obtain ⟨ad, rfl, hcell⟩ := hC.2.2 h0
  obtain ⟨g, rfl⟩ := Kd.R_head h
  refine ⟨g, c, rfl, hc, Kd.R_base h g rfl, Kd.R_lt h g rfl, fun i hi => ?_⟩
  obtain ⟨cs, hl, hK, hu⟩ := hcell i xs[i] (List.getElem?_eq_getElem hi)
  have hK' : cs = [.int .u8 xs[i]] := hK
  subst hK'
  have h2 := hu 0 _ rfl
  rw [add_plain] at h2
  have e : at_ xs i = xs[i] := by unfold at_; rw [List.getD_eq_getElem?_getD, List.getElem?_eq_getElem hi]; rfl
  rw [e]
  have e2 : i * (Kd.int .u8).sz + 0 = i := by show i * 1 + 0 = i; omega
  rw [e2] at h2
  exact h2
theorem ErrP.only {W W' : World} {g : Nat} (hO : Only g W W') (hb : ∃ cs t, W.heap[g]? = some (.cells cs t (0, 0)) ∧ t ≠ 55) {c : Int} : ∀ {p : List ByteArray} {v : Value}, ErrP W c p v → ErrP W' c p v
  | [], _, hv => hv
  | _ :: _, _, ⟨k, v', e, hg, hv⟩ => ⟨k, v', e, heap_only hO (fun hk => by
      obtain ⟨cs, t, hb, ht⟩ := hb
      rw [hk] at hg; rw [hb] at hg; injection hg with hg; injection hg with _ hg; exact absurd hg ht) hg, ErrP.only hO hb hv⟩
def set3 (w : World) (b : Nat) (a0 a1 a2 : Value) : World := ((w.setCell ⟨b, 0, none⟩ a0).setCell ⟨b, 1, none⟩ a1).setCell ⟨b, 2, none⟩ a2
theorem set3_heap {w : World} {b t : Nat} {c0 c1 c2 : Value} (a0 a1 a2 : Value) (h : w.heap[b]? = some (.cells #[c0, c1, c2] t (0, 0))) : (set3 w b a0 a1 a2).heap[b]? = some (.cells #[a0, a1, a2] t (0, 0)) := by
  have := blk_set (blk_set (blk_set h 0 a0) 1 a1) 2 a2
  simpa [set3] using this
theorem set3_far {w : World} {b b' k : Nat} {v : Value} (a0 a1 a2 : Value) (hne : b ≠ b') (h : w.cell? ⟨b', k, none⟩ = some v) : (((w.setCell ⟨b, 0, none⟩ a0).setCell ⟨b, 1, none⟩ a1).setCell ⟨b, 2, none⟩ a2).drew.cell? ⟨b', k, none⟩ = some v := by
  rw [World.cell?_drew, World.cell?_setCell_far _ _ _ _ hne, World.cell?_setCell_far _ _ _ _ hne, World.cell?_setCell_far _ _ _ _ hne]; exact h
theorem set3_only (w : World) (b : Nat) (a0 a1 a2 : Value) : Only b w (set3 w b a0 a1 a2) := ((set_only _ _ _ _).trans (set_only _ _ _ _)).trans (set_only _ _ _ _)
set_option maxHeartbeats 16000000 in
set_option maxRecDepth 100000 in
theorem Decode_calls (A : Option Addr) (c : Nat) (l : List Int) (w : World) (hC : Kd.C (Kd.int .u8) w A l.length l) (hc : l.length ≤ c) (hl : l.length ≤ 900000) (hb : Bytes l) :
    Calls Tryd.prog 12 #[.slice A l.length c] w fun e w' => ∃ v e0, e = .returned (.tuple #[.agg #[.int .i64 (decC l), .int .i64 (decQ l), v], e0]) ∧ ErrV w' (decE l) e0 ∧ (∃ A' c', v = .slice A' (decD l).length c' ∧ (decD l).length ≤ c' ∧ Kd.C (Kd.int .u8) w' A' (decD l).length (decD l)) ∧ Below w.heap.size w w' := by
  have B0 : Aside0 (Below w.heap.size w (w.alloc (.cells #[.int .i64 0, .int .i64 0, .slice none 0 0] 24))) := balloc ⟨Below.refl _ _⟩ _
  have HX0 := Aside0.mk (heap_new w (.cells #[.int .i64 0, .int .i64 0, .slice none 0 0] 24))
  have HC := Aside0.mk hC
  have HCC := Aside0.mk hc
  have HN := Aside0.mk hl
  have HBX := Aside0.mk (bytes_open hb)
  clear hC hc hb
  have HL := Aside0.mk (show openL l = openL l from rfl)
  cases hok : openOk l with
  | false =>
    have HE := Aside0.mk (show decE l = 3 by unfold decE; rw [if_pos hok])
    have HD := Aside0.mk (show decC l = 0 ∧ decQ l = 0 ∧ decD l = [] by unfold decC decQ decD; rw [HE.out]; exact ⟨rfl, rfl, rfl⟩)
    have HOK := Aside0.mk hok
    clear hok
    go_enter Tryd.func12, Tryd.ntmps12
    go_wp2_with fail
    have hA := Open_calls A c l _ (Kd.C_below HC.out B0.out) HCC.out hl
    rw [HOK.out] at hA
    refine hA.mono ?_
    clear hA
    rintro e w2 ⟨v2, rfl, hR, hb⟩
    obtain ⟨A2, c2, rfl, -, -⟩ := Kd.R_reads hR
    generalize (openL l).length = n2
    have B2 := Aside0.mk (below_thenB B0.out hb B0.out.size)
    have HX2 := Aside0.mk (heap_below ⟨hb⟩ HX0.out)
    clear hb hR
    go_wp2_with fail
    refine (new_err 3 sPlace _ (by decide)).mono ?_
    rintro e w3 ⟨v3, rfl, hE, hb⟩
    have B3 := Aside0.mk (below_thenB B2.out hb B2.out.size)
    have HX3 := heap_below ⟨hb⟩ HX2.out
    have hE3 := Aside0.mk hE
    have k0 : World.cell? w3 ⟨w.heap.size, 0, none⟩ = some (.int .i64 0) := cell_of_heap HX3 0
    have k1 : World.cell? w3 ⟨w.heap.size, 1, none⟩ = some (.int .i64 0) := cell_of_heap HX3 1
    have k2 : World.cell? w3 ⟨w.heap.size, 2, none⟩ = some (.slice none 0 0) := cell_of_heap HX3 2
    have f0 := frozen_of_heap HX3 0
    have f1 := frozen_of_heap HX3 1
    have f2 := frozen_of_heap HX3 2
    have HX4 := Aside0.mk HX3
    obtain ⟨ty, x, rfl⟩ := hE.iface
    clear hb hE HX3
    go_wp2_with fail
    have hO := set3_only w3 w.heap.size (.int .i64 0) (.int .i64 0) (.slice none 0 0)
    have hH := set3_heap (.int .i64 0) (.int .i64 0) (.slice none 0 0) HX4.out
    unfold set3 at hO hH
    generalize ((w3.setCell ⟨w.heap.size, 0, none⟩ (.int .i64 0)).setCell ⟨w.heap.size, 1, none⟩ (.int .i64 0)).setCell ⟨w.heap.size, 2, none⟩ (.slice none 0 0) = w9 at hO hH ⊢
    have r0 : World.cell? w9 ⟨w.heap.size, 0, none⟩ = some (.int .i64 0) := cell_of_heap hH 0
    have r1 : World.cell? w9 ⟨w.heap.size, 1, none⟩ = some (.int .i64 0) := cell_of_heap hH 1
    have r2 : World.cell? w9 ⟨w.heap.size, 2, none⟩ = some (.slice none 0 0) := cell_of_heap hH 2
    have hP := hE3.out.only hO ⟨_, _, HX4.out, by decide⟩
    refine bodyPost_ret (v := .tuple #[.agg #[.int .i64 0, .int .i64 0, .slice none 0 0], .iface ty x]) (by simp [results, Tryd.results12, go_sem, r0, r1, r2]) rfl ?_
    rw [HD.out.1, HD.out.2.1, HD.out.2.2, HE.out]
    exact ⟨_, _, rfl, .inr ⟨by decide, hP⟩, ⟨none, 0, rfl, Nat.le_refl _, Kd.C_nil _ _⟩, (bonly B3 hO (Nat.le_refl _)).out⟩
  | true =>
    have HOK := Aside0.mk hok
    clear hok
    obtain ⟨x, hx⟩ : ∃ x, x = openL l := ⟨_, rfl⟩
    have HX := Aside0.mk hx
    have hbx := HBX.out
    rw [← hx] at hbx
    have hxl : x.length ≤ l.length := by rw [hx]; unfold openL; split <;> simp <;> omega
    have HXB := Aside0.mk hbx
    have b0 := bytes_at hbx 0
    have b1 := bytes_at hbx 1
    have b2 := bytes_at hbx 2
    clear hx hbx
    have pre : ∀ (Q : Ending → World → Prop), (∀ e w2, (∃ v2, e = .returned (.tuple #[v2, .bool true]) ∧ Kd.R (Kd.int .u8) 5 w2 (w.alloc (.cells #[.int .i64 0, .int .i64 0, .slice none 0 0] 24)).heap.size (fun _ => True) v2 x ∧ Below (w.alloc (.cells #[.int .i64 0, .int .i64 0, .slice none 0 0] 24)).heap.size (w.alloc (.cells #[.int .i64 0, .int .i64 0, .slice none 0 0] 24)) w2) → Q e w2) → Calls Tryd.prog 20 #[.slice A l.length c] (w.alloc (.cells #[.int .i64 0, .int .i64 0, .slice none 0 0] 24)) Q := by
      intro Q hQ
      have hA := Open_calls A c l _ (Kd.C_below HC.out B0.out) HCC.out hl
      rw [HOK.out, ← HX.out] at hA
      exact hA.mono hQ
    have PRE := Aside0.mk pre
    clear pre
    by_cases hbad : formBad x
    · have HE := Aside0.mk (show decE l = 2 by unfold decE; rw [if_neg (by rw [HOK.out]; decide), ← HX.out, if_pos hbad])
      have HD := Aside0.mk (show decC l = 0 ∧ decQ l = 0 ∧ decD l = [] by unfold decC decQ decD; rw [HE.out]; exact ⟨rfl, rfl, rfl⟩)
      have k : decide ((x.length : Int) < 3) = true ∨ (decide ((x.length : Int) < 3) = false ∧ decide (15 < at_ x 0) = true) ∨ (decide ((x.length : Int) < 3) = false ∧ decide (15 < at_ x 0) = false ∧ decide (16 < at_ x 2) = true) ∨ (decide ((x.length : Int) < 3) = false ∧ decide (15 < at_ x 0) = false ∧ decide (16 < at_ x 2) = false ∧ ((x.length : Int) - 3 != at_ x 2) = true) := by
        unfold formBad at hbad
        by_cases h1 : (x.length : Int) < 3
        · exact .inl (decide_eq_true h1)
        · by_cases h2 : 15 < at_ x 0
          · exact .inr (.inl ⟨decide_eq_false h1, decide_eq_true h2⟩)
          · by_cases h3 : 16 < at_ x 2
            · exact .inr (.inr (.inl ⟨decide_eq_false h1, decide_eq_false h2, decide_eq_true h3⟩))
            · exact .inr (.inr (.inr ⟨decide_eq_false h1, decide_eq_false h2, decide_eq_false h3, by
                rcases hbad with h | h | h | h
                · omega
                · exact absurd h h2
                · exact absurd h h3
                · simpa using h⟩))
      have HW := Aside0.mk (show wrap64 ((x.length : Int) - 3) = x.length - 3 ∧ wrap64 (at_ x 2) = at_ x 2 by constructor <;> (unfold wrap64; omega))
      clear hbad b0 b1 b2
      rcases k with k0 | ⟨k0, k1⟩ | ⟨k0, k1, k2⟩ | ⟨k0, k1, k2, k3⟩
      · go_enter Tryd.func12, Tryd.ntmps12
        go_wp2_with fail
        refine PRE.out _ ?_
        rintro e w2 ⟨v2, rfl, hR, hb⟩
        have B2 := Aside0.mk (below_thenB B0.out hb B0.out.size)
        have HX2 := Aside0.mk (heap_below ⟨hb⟩ HX0.out)
        obtain ⟨A2, c2, rfl, -, -⟩ := Kd.R_reads hR
        clear hb hR
        have hw := HW.out.1
        have hw2 := HW.out.2
        go_wp2_with fail
        refine (new_err 2 sPlace _ (by decide)).mono ?_
        rintro e w3 ⟨v3, rfl, hE, hb⟩
        have B3 := Aside0.mk (below_thenB B2.out hb B2.out.size)
        have HX3 := heap_below ⟨hb⟩ HX2.out
        have hE3 := Aside0.mk hE
        have z0 : World.cell? w3 ⟨w.heap.size, 0, none⟩ = some (.int .i64 0) := cell_of_heap HX3 0
        have z1 : World.cell? w3 ⟨w.heap.size, 1, none⟩ = some (.int .i64 0) := cell_of_heap HX3 1
        have z2 : World.cell? w3 ⟨w.heap.size, 2, none⟩ = some (.slice none 0 0) := cell_of_heap HX3 2
        have f0 := frozen_of_heap HX3 0
        have f1 := frozen_of_heap HX3 1
        have f2 := frozen_of_heap HX3 2
        have HX4 := Aside0.mk HX3
        obtain ⟨ty, y, rfl⟩ := hE.iface
        clear hb hE HX3
        go_wp2_with fail
        have hO := set3_only w3 w.heap.size (.int .i64 0) (.int .i64 0) (.slice none 0 0)
        have hH := set3_heap (.int .i64 0) (.int .i64 0) (.slice none 0 0) HX4.out
        unfold set3 at hO hH
        generalize ((w3.setCell ⟨w.heap.size, 0, none⟩ (.int .i64 0)).setCell ⟨w.heap.size, 1, none⟩ (.int .i64 0)).setCell ⟨w.heap.size, 2, none⟩ (.slice none 0 0) = w9 at hO hH ⊢
        have r0 : World.cell? w9 ⟨w.heap.size, 0, none⟩ = some (.int .i64 0) := cell_of_heap hH 0
        have r1 : World.cell? w9 ⟨w.heap.size, 1, none⟩ = some (.int .i64 0) := cell_of_heap hH 1
        have r2 : World.cell? w9 ⟨w.heap.size, 2, none⟩ = some (.slice none 0 0) := cell_of_heap hH 2
        have hP := hE3.out.only hO ⟨_, _, HX4.out, by decide⟩
        refine bodyPost_ret (v := .tuple #[.agg #[.int .i64 0, .int .i64 0, .slice none 0 0], .iface ty y]) (by simp [results, Tryd.results12, go_sem, r0, r1, r2]) rfl ?_
        rw [HD.out.1, HD.out.2.1, HD.out.2.2, HE.out]
        exact ⟨_, _, rfl, .inr ⟨by decide, hP⟩, ⟨none, 0, rfl, Nat.le_refl _, Kd.C_nil _ _⟩, (bonly B3 hO (Nat.le_refl _)).out⟩
      · go_enter Tryd.func12, Tryd.ntmps12
        go_wp2_with fail
        refine PRE.out _ ?_
        rintro e w2 ⟨v2, rfl, hR, hb⟩
        have B2 := Aside0.mk (below_thenB B0.out hb B0.out.size)
        have HX2 := Aside0.mk (heap_below ⟨hb⟩ HX0.out)
        have hlen : 2 < x.length := by have := of_decide_eq_false k0; omega
        obtain ⟨g2, c2, rfl, hc2, -, -, hcells⟩ := R_at hR (by omega)
        have y0 := hcells 0 (by omega)
        have y2 := hcells 2 hlen
        clear hcells
        have hl0 : 0 < x.length := by omega
        have hl2 : (2 : Int) < (x.length : Int) := by omega
        clear hb hR
        have hw := HW.out.1
        have hw2 := HW.out.2
        go_wp2_with fail
        refine (new_err 2 sPlace _ (by decide)).mono ?_
        rintro e w3 ⟨v3, rfl, hE, hb⟩
        have B3 := Aside0.mk (below_thenB B2.out hb B2.out.size)
        have HX3 := heap_below ⟨hb⟩ HX2.out
        have hE3 := Aside0.mk hE
        have z0 : World.cell? w3 ⟨w.heap.size, 0, none⟩ = some (.int .i64 0) := cell_of_heap HX3 0
        have z1 : World.cell? w3 ⟨w.heap.size, 1, none⟩ = some (.int .i64 0) := cell_of_heap HX3 1
        have z2 : World.cell? w3 ⟨w.heap.size, 2, none⟩ = some (.slice none 0 0) := cell_of_heap HX3 2
        have f0 := frozen_of_heap HX3 0
        have f1 := frozen_of_heap HX3 1
        have f2 := frozen_of_heap HX3 2
        have HX4 := Aside0.mk HX3
        obtain ⟨ty, y, rfl⟩ := hE.iface
        clear hb hE HX3
        go_wp2_with fail
        have hO := set3_only w3 w.heap.size (.int .i64 0) (.int .i64 0) (.slice none 0 0)
        have hH := set3_heap (.int .i64 0) (.int .i64 0) (.slice none 0 0) HX4.out
        unfold set3 at hO hH
        generalize ((w3.setCell ⟨w.heap.size, 0, none⟩ (.int .i64 0)).setCell ⟨w.heap.size, 1, none⟩ (.int .i64 0)).setCell ⟨w.heap.size, 2, none⟩ (.slice none 0 0) = w9 at hO hH ⊢
        have r0 : World.cell? w9 ⟨w.heap.size, 0, none⟩ = some (.int .i64 0) := cell_of_heap hH 0
        have r1 : World.cell? w9 ⟨w.heap.size, 1, none⟩ = some (.int .i64 0) := cell_of_heap hH 1
        have r2 : World.cell? w9 ⟨w.heap.size, 2, none⟩ = some (.slice none 0 0) := cell_of_heap hH 2
        have hP := hE3.out.only hO ⟨_, _, HX4.out, by decide⟩
        refine bodyPost_ret (v := .tuple #[.agg #[.int .i64 0, .int .i64 0, .slice none 0 0], .iface ty y]) (by simp [results, Tryd.results12, go_sem, r0, r1, r2]) rfl ?_
        rw [HD.out.1, HD.out.2.1, HD.out.2.2, HE.out]
        exact ⟨_, _, rfl, .inr ⟨by decide, hP⟩, ⟨none, 0, rfl, Nat.le_refl _, Kd.C_nil _ _⟩, (bonly B3 hO (Nat.le_refl _)).out⟩
      · go_enter Tryd.func12, Tryd.ntmps12
        go_wp2_with fail
        refine PRE.out _ ?_
        rintro e w2 ⟨v2, rfl, hR, hb⟩
        have B2 := Aside0.mk (below_thenB B0.out hb B0.out.size)
        have HX2 := Aside0.mk (heap_below ⟨hb⟩ HX0.out)
        have hlen : 2 < x.length := by have := of_decide_eq_false k0; omega
        obtain ⟨g2, c2, rfl, hc2, -, -, hcells⟩ := R_at hR (by omega)
        have y0 := hcells 0 (by omega)
        have y2 := hcells 2 hlen
        clear hcells
        have hl0 : 0 < x.length := by omega
        have hl2 : (2 : Int) < (x.length : Int) := by omega
        clear hb hR
        have hw := HW.out.1
        have hw2 := HW.out.2
        go_wp2_with fail
        refine (new_err 2 sPlace _ (by decide)).mono ?_
        rintro e w3 ⟨v3, rfl, hE, hb⟩
        have B3 := Aside0.mk (below_thenB B2.out hb B2.out.size)
        have HX3 := heap_below ⟨hb⟩ HX2.out
        have hE3 := Aside0.mk hE
        have z0 : World.cell? w3 ⟨w.heap.size, 0, none⟩ = some (.int .i64 0) := cell_of_heap HX3 0
        have z1 : World.cell? w3 ⟨w.heap.size, 1, none⟩ = some (.int .i64 0) := cell_of_heap HX3 1
        have z2 : World.cell? w3 ⟨w.heap.size, 2, none⟩ = some (.slice none 0 0) := cell_of_heap HX3 2
        have f0 := frozen_of_heap HX3 0
        have f1 := frozen_of_heap HX3 1
        have f2 := frozen_of_heap HX3 2
        have HX4 := Aside0.mk HX3
        obtain ⟨ty, y, rfl⟩ := hE.iface
        clear hb hE HX3
        go_wp2_with fail
        have hO := set3_only w3 w.heap.size (.int .i64 0) (.int .i64 0) (.slice none 0 0)
        have hH := set3_heap (.int .i64 0) (.int .i64 0) (.slice none 0 0) HX4.out
        unfold set3 at hO hH
        generalize ((w3.setCell ⟨w.heap.size, 0, none⟩ (.int .i64 0)).setCell ⟨w.heap.size, 1, none⟩ (.int .i64 0)).setCell ⟨w.heap.size, 2, none⟩ (.slice none 0 0) = w9 at hO hH ⊢
        have r0 : World.cell? w9 ⟨w.heap.size, 0, none⟩ = some (.int .i64 0) := cell_of_heap hH 0
        have r1 : World.cell? w9 ⟨w.heap.size, 1, none⟩ = some (.int .i64 0) := cell_of_heap hH 1
        have r2 : World.cell? w9 ⟨w.heap.size, 2, none⟩ = some (.slice none 0 0) := cell_of_heap hH 2
        have hP := hE3.out.only hO ⟨_, _, HX4.out, by decide⟩
        refine bodyPost_ret (v := .tuple #[.agg #[.int .i64 0, .int .i64 0, .slice none 0 0], .iface ty y]) (by simp [results, Tryd.results12, go_sem, r0, r1, r2]) rfl ?_
        rw [HD.out.1, HD.out.2.1, HD.out.2.2, HE.out]
        exact ⟨_, _, rfl, .inr ⟨by decide, hP⟩, ⟨none, 0, rfl, Nat.le_refl _, Kd.C_nil _ _⟩, (bonly B3 hO (Nat.le_refl _)).out⟩
      · go_enter Tryd.func12, Tryd.ntmps12
        go_wp2_with fail
        refine PRE.out _ ?_
        rintro e w2 ⟨v2, rfl, hR, hb⟩
        have B2 := Aside0.mk (below_thenB B0.out hb B0.out.size)
        have HX2 := Aside0.mk (heap_below ⟨hb⟩ HX0.out)
        have hlen : 2 < x.length := by have := of_decide_eq_false k0; omega
        obtain ⟨g2, c2, rfl, hc2, -, -, hcells⟩ := R_at hR (by omega)
        have y0 := hcells 0 (by omega)
        have y2 := hcells 2 hlen
        clear hcells
        have hl0 : 0 < x.length := by omega
        have hl2 : (2 : Int) < (x.length : Int) := by omega
        clear hb hR
        have hw := HW.out.1
        have hw2 := HW.out.2
        go_wp2_with fail
        refine (new_err 2 sPlace _ (by decide)).mono ?_
        rintro e w3 ⟨v3, rfl, hE, hb⟩
        have B3 := Aside0.mk (below_thenB B2.out hb B2.out.size)
        have HX3 := heap_below ⟨hb⟩ HX2.out
        have hE3 := Aside0.mk hE
        have z0 : World.cell? w3 ⟨w.heap.size, 0, none⟩ = some (.int .i64 0) := cell_of_heap HX3 0
        have z1 : World.cell? w3 ⟨w.heap.size, 1, none⟩ = some (.int .i64 0) := cell_of_heap HX3 1
        have z2 : World.cell? w3 ⟨w.heap.size, 2, none⟩ = some (.slice none 0 0) := cell_of_heap HX3 2
        have f0 := frozen_of_heap HX3 0
        have f1 := frozen_of_heap HX3 1
        have f2 := frozen_of_heap HX3 2
        have HX4 := Aside0.mk HX3
        obtain ⟨ty, y, rfl⟩ := hE.iface
        clear hb hE HX3
        go_wp2_with fail
        have hO := set3_only w3 w.heap.size (.int .i64 0) (.int .i64 0) (.slice none 0 0)
        have hH := set3_heap (.int .i64 0) (.int .i64 0) (.slice none 0 0) HX4.out
        unfold set3 at hO hH
        generalize ((w3.setCell ⟨w.heap.size, 0, none⟩ (.int .i64 0)).setCell ⟨w.heap.size, 1, none⟩ (.int .i64 0)).setCell ⟨w.heap.size, 2, none⟩ (.slice none 0 0) = w9 at hO hH ⊢
        have r0 : World.cell? w9 ⟨w.heap.size, 0, none⟩ = some (.int .i64 0) := cell_of_heap hH 0
        have r1 : World.cell? w9 ⟨w.heap.size, 1, none⟩ = some (.int .i64 0) := cell_of_heap hH 1
        have r2 : World.cell? w9 ⟨w.heap.size, 2, none⟩ = some (.slice none 0 0) := cell_of_heap hH 2
        have hP := hE3.out.only hO ⟨_, _, HX4.out, by decide⟩
        refine bodyPost_ret (v := .tuple #[.agg #[.int .i64 0, .int .i64 0, .slice none 0 0], .iface ty y]) (by simp [results, Tryd.results12, go_sem, r0, r1, r2]) rfl ?_
        rw [HD.out.1, HD.out.2.1, HD.out.2.2, HE.out]
        exact ⟨_, _, rfl, .inr ⟨by decide, hP⟩, ⟨none, 0, rfl, Nat.le_refl _, Kd.C_nil _ _⟩, (bonly B3 hO (Nat.le_refl _)).out⟩
    · have hg : 3 ≤ x.length ∧ at_ x 0 ≤ 15 ∧ at_ x 2 ≤ 16 ∧ (x.length : Int) - 3 = at_ x 2 := by unfold formBad at hbad; omega
      have HE := Aside0.mk (show decE l = 0 by unfold decE; rw [if_neg (by rw [HOK.out]; decide), ← HX.out, if_neg hbad])
      have HD := Aside0.mk (show decC l = at_ x 0 ∧ decQ l = at_ x 1 ∧ decD l = x.drop 3 by unfold decC decQ decD; rw [HE.out, ← HX.out]; exact ⟨rfl, rfl, rfl⟩)
      have k0 : decide ((x.length : Int) < 3) = false := decide_eq_false (by omega)
      have k1 : decide (15 < at_ x 0) = false := decide_eq_false (by omega)
      have k2 : decide (16 < at_ x 2) = false := decide_eq_false (by omega)
      have k3 : ((x.length : Int) - 3 != at_ x 2) = false := by simpa using hg.2.2.2
      have HW := Aside0.mk (show wrap64 ((x.length : Int) - 3) = x.length - 3 ∧ wrap64 (at_ x 2) = at_ x 2 by constructor <;> (unfold wrap64; omega))
      have HV := Aside0.mk (show IntKind.i64.wrap (at_ x 0) = at_ x 0 ∧ IntKind.i64.wrap (at_ x 1) = at_ x 1 by constructor <;> (rw [i64_w]; unfold wrap64; omega))
      have h3 : 3 ≤ x.length := hg.1
      clear hbad b0 b1 b2 hg
      go_enter Tryd.func12, Tryd.ntmps12
      go_wp2_with fail
      refine PRE.out _ ?_
      rintro e w2 ⟨v2, rfl, hR, hb⟩
      have B2 := Aside0.mk (below_thenB B0.out hb B0.out.size)
      have HX2 := Aside0.mk (heap_below ⟨hb⟩ HX0.out)
      have R2 := Aside0.mk (R_from hR)
      obtain ⟨g2, c2, rfl, hc2, hg2, hg2b, hcells⟩ := R_at hR (by omega)
      have hne : w.heap.size ≠ g2 := by have h1 := hg2; simp at h1; omega
      have y0 := hcells 0 (by omega)
      have y1 := hcells 1 (by omega)
      have y2 := hcells 2 (by omega)
      have hl0 : 0 < x.length := by omega
      have hl1 : (1 : Int) < (x.length : Int) := by omega
      have hl2 : (2 : Int) < (x.length : Int) := by omega
      obtain ⟨i0, hi0, _, hsz, _⟩ := info_parts info5
      obtain ⟨A', hcut, hA, hC3⟩ := print_drop_of (P := Tryd.prog) (Value.int .u8) 0 22 5 .i64 Tryd.underlying22 hi0 hsz (some ⟨g2, 0, none⟩) c2 x 3 (by omega) (by omega) hc2
      have HA := Aside0.mk hA
      have HC3 := Aside0.mk hC3
      have HCUT := Aside0.mk hcut
      clear hb hR hcells hg2 hg2b hi0 hsz hA hC3 hcut hc2
      have hw := HW.out.1
      have hw2 := HW.out.2
      go_upto_region 6 with fail
      have hcut := HCUT.out
      have z0 : World.cell? w2 ⟨w.heap.size, 0, none⟩ = some (.int .i64 0) := cell_of_heap HX2.out 0
      have z1 : World.cell? w2 ⟨w.heap.size, 1, none⟩ = some (.int .i64 0) := cell_of_heap HX2.out 1
      have z2 : World.cell? w2 ⟨w.heap.size, 2, none⟩ = some (.slice none 0 0) := cell_of_heap HX2.out 2
      have f0 := frozen_of_heap HX2.out 0
      have f1 := frozen_of_heap HX2.out 1
      have f2 := frozen_of_heap HX2.out 2
      refine wp_region_held_drew (S := (fun W => W.cell? ⟨g2, 0, none⟩ = some (.int .u8 (at_ x 0)) ∧ W.cell? ⟨g2, 1, none⟩ = some (.int .u8 (at_ x 1)))) (by kernel_rfl) ?_ (fun hHeld => ?_)
      · exact ⟨y0, y1⟩
      refine wpAnyH_take (i := 0) (oi := { dst := some 44, op := Go.Op.move (Go.Operand.tmp 4), type := 22, pos := "frame.go:39", after := #[], guard := none }) (v := ?vz0) rfl (by kernel_rfl) (by kernel_rfl) (by kernel_rfl) (fun _ _ _ h => h) (Or.inl ⟨by rfl, ?yz0⟩) (by assumption) ?rz0
      case yz0 => ((intro w hSw; (try dsimp only at hSw); go_simp) <;> with_reducible rfl)
      try simp only [Act.put, List.setIfInBounds_toArray, List.set_cons_zero, List.set_cons_succ]
      refine wpAnyH_take (i := 1) (oi := { dst := some 45, op := Go.Op.indexAddr 22 (Go.Operand.tmp 44) (Go.Operand.const (Go.Value.int Go.IntKind.i64 0)), type := 0, pos := "frame.go:39", after := #[{ on := 0, ground := Go.Ground.data }], guard := none }) (v := ?vz1) rfl (by kernel_rfl) (by kernel_rfl) (by kernel_rfl) (fun _ _ _ h => h) (Or.inl ⟨by rfl, ?yz1⟩) (by assumption) ?rz1
      case yz1 => ((intro w hSw; (try dsimp only at hSw); go_simp) <;> with_reducible rfl)
      try simp only [Act.put, List.setIfInBounds_toArray, List.set_cons_zero, List.set_cons_succ]
      refine wpAnyH_take (i := 2) (oi := { dst := some 46, op := Go.Op.load 5 (Go.Operand.tmp 45), type := 5, pos := "frame.go:39", after := #[{ on := 1, ground := Go.Ground.data }], guard := none }) (v := ?vz2) rfl (by kernel_rfl) (by kernel_rfl) (by kernel_rfl) (fun _ _ _ h => h) (Or.inl ⟨by rfl, ?yz2⟩) (by assumption) ?rz2
      case yz2 => ((intro w hSw; (try dsimp only at hSw); go_simp) <;> with_reducible rfl)
      try simp only [Act.put, List.setIfInBounds_toArray, List.set_cons_zero, List.set_cons_succ]
      refine wpAnyH_take (i := 3) (oi := { dst := some 47, op := Go.Op.convert 5 3 (Go.Operand.tmp 46), type := 3, pos := "frame.go:39", after := #[{ on := 2, ground := Go.Ground.data }], guard := none }) (v := ?vz3) rfl (by kernel_rfl) (by kernel_rfl) (by kernel_rfl) (fun _ _ _ h => h) (Or.inl ⟨by rfl, ?yz3⟩) (by assumption) ?rz3
      case yz3 => ((intro w hSw; (try dsimp only at hSw); go_simp) <;> with_reducible rfl)
      try simp only [Act.put, List.setIfInBounds_toArray, List.set_cons_zero, List.set_cons_succ]
      refine wpAnyH_take (i := 4) (oi := { dst := some 48, op := Go.Op.move (Go.Operand.tmp 4), type := 22, pos := "frame.go:39", after := #[], guard := none }) (v := ?vz4) rfl (by kernel_rfl) (by kernel_rfl) (by kernel_rfl) (fun _ _ _ h => h) (Or.inl ⟨by rfl, ?yz4⟩) (by assumption) ?rz4
      case yz4 => ((intro w hSw; (try dsimp only at hSw); go_simp) <;> with_reducible rfl)
      try simp only [Act.put, List.setIfInBounds_toArray, List.set_cons_zero, List.set_cons_succ]
      refine wpAnyH_take (i := 5) (oi := { dst := some 49, op := Go.Op.indexAddr 22 (Go.Operand.tmp 48) (Go.Operand.const (Go.Value.int Go.IntKind.i64 1)), type := 0, pos := "frame.go:39", after := #[{ on := 4, ground := Go.Ground.data }], guard := none }) (v := ?vz5) rfl (by kernel_rfl) (by kernel_rfl) (by kernel_rfl) (fun _ _ _ h => h) (Or.inl ⟨by rfl, ?yz5⟩) (by assumption) ?rz5
      case yz5 => ((intro w hSw; (try dsimp only at hSw); go_simp) <;> with_reducible rfl)
      try simp only [Act.put, List.setIfInBounds_toArray, List.set_cons_zero, List.set_cons_succ]
      refine wpAnyH_take (i := 6) (oi := { dst := some 50, op := Go.Op.load 5 (Go.Operand.tmp 49), type := 5, pos := "frame.go:39", after := #[{ on := 5, ground := Go.Ground.data }], guard := none }) (v := ?vz6) rfl (by kernel_rfl) (by kernel_rfl) (by kernel_rfl) (fun _ _ _ h => h) (Or.inl ⟨by rfl, ?yz6⟩) (by assumption) ?rz6
      case yz6 => ((intro w hSw; (try dsimp only at hSw); go_simp) <;> with_reducible rfl)
      try simp only [Act.put, List.setIfInBounds_toArray, List.set_cons_zero, List.set_cons_succ]
      refine wpAnyH_take (i := 7) (oi := { dst := some 51, op := Go.Op.convert 5 3 (Go.Operand.tmp 50), type := 3, pos := "frame.go:39", after := #[{ on := 6, ground := Go.Ground.data }], guard := none }) (v := ?vz7) rfl (by kernel_rfl) (by kernel_rfl) (by kernel_rfl) (fun _ _ _ h => h) (Or.inl ⟨by rfl, ?yz7⟩) (by assumption) ?rz7
      case yz7 => ((intro w hSw; (try dsimp only at hSw); go_simp) <;> with_reducible rfl)
      try simp only [Act.put, List.setIfInBounds_toArray, List.set_cons_zero, List.set_cons_succ]
      refine wpAnyH_take (i := 8) (oi := { dst := some 52, op := Go.Op.move (Go.Operand.tmp 4), type := 22, pos := "frame.go:39", after := #[], guard := none }) (v := ?vz8) rfl (by kernel_rfl) (by kernel_rfl) (by kernel_rfl) (fun _ _ _ h => h) (Or.inl ⟨by rfl, ?yz8⟩) (by assumption) ?rz8
      case yz8 => ((intro w hSw; (try dsimp only at hSw); go_simp) <;> with_reducible rfl)
      try simp only [Act.put, List.setIfInBounds_toArray, List.set_cons_zero, List.set_cons_succ]
      refine wpAnyH_take (i := 9) (oi := { dst := some 53, op := Go.Op.slice 22 (Go.Operand.tmp 52) (some (Go.Operand.const (Go.Value.int Go.IntKind.i64 3))) none none, type := 22, pos := "frame.go:39", after := #[{ on := 8, ground := Go.Ground.data }], guard := none }) (v := ?vz9) rfl (by kernel_rfl) (by kernel_rfl) (by kernel_rfl) (fun _ _ _ h => h) (Or.inl ⟨by rfl, ?yz9⟩) (by assumption) ?rz9
      case yz9 => ((intro w hSw; (try dsimp only at hSw); go_simp) <;> with_reducible rfl)
      try simp only [Act.put, List.setIfInBounds_toArray, List.set_cons_zero, List.set_cons_succ]
      refine wpAnyH_take (i := 10) (oi := { dst := some 54, op := Go.Op.build 24 #[(0, Go.Operand.tmp 47), (1, Go.Operand.tmp 51), (2, Go.Operand.tmp 53)], type := 24, pos := "frame.go:39", after := #[{ on := 3, ground := Go.Ground.data }, { on := 7, ground := Go.Ground.data }, { on := 9, ground := Go.Ground.data }], guard := none }) (v := ?vz10) rfl (by kernel_rfl) (by kernel_rfl) (by kernel_rfl) (fun _ _ _ h => h) (Or.inl ⟨by rfl, ?yz10⟩) (by assumption) ?rz10
      case yz10 => ((intro w hSw; (try dsimp only at hSw); go_simp) <;> with_reducible rfl)
      try simp only [Act.put, List.setIfInBounds_toArray, List.set_cons_zero, List.set_cons_succ]
      refine wpAnyH_ready (rs := [11]) (by kernel_rfl) (by simp) ?_
      refine AllReadyH.cons (o := { dst := none, op := Go.Op.store 24 (Go.Operand.tmp 2) (Go.Operand.tmp 54), type := 0, pos := "frame.go:39", after := #[{ on := 10, ground := Go.Ground.data }, { on := 0, ground := Go.Ground.phase }, { on := 1, ground := Go.Ground.phase }, { on := 2, ground := Go.Ground.phase }, { on := 3, ground := Go.Ground.phase }, { on := 4, ground := Go.Ground.phase }, { on := 5, ground := Go.Ground.phase }, { on := 6, ground := Go.Ground.phase }, { on := 7, ground := Go.Ground.phase }, { on := 8, ground := Go.Ground.phase }, { on := 9, ground := Go.Ground.phase }, { on := 10, ground := Go.Ground.phase }], guard := none }) rfl (fun K hK => ?kz11) AllReadyH.nil
      have z0d : World.cell? w2.drew ⟨w.heap.size, 0, none⟩ = some (.int .i64 0) := z0
      have z1d : World.cell? w2.drew ⟨w.heap.size, 1, none⟩ = some (.int .i64 0) := z1
      have z2d : World.cell? w2.drew ⟨w.heap.size, 2, none⟩ = some (.slice none 0 0) := z2
      have f0d : World.frozen? w2.drew ⟨w.heap.size, 0, none⟩ = false := f0
      have f1d : World.frozen? w2.drew ⟨w.heap.size, 1, none⟩ = false := f1
      have f2d : World.frozen? w2.drew ⟨w.heap.size, 2, none⟩ = false := f2
      go_simp
      refine hK.out _ _ ?_ (fun hHeld => ?_)
      · exact ⟨set3_far _ _ _ hne y0, set3_far _ _ _ hne y1⟩
      clear hK K
      try simp only [Act.put, List.setIfInBounds_toArray, List.set_cons_zero, List.set_cons_succ]
      refine wpAnyH_take (i := 12) (oi := { dst := some 3, op := Go.Op.assign (Go.Operand.const Go.Value.nilIface), type := 27, pos := "frame.go:39", after := #[{ on := 11, ground := Go.Ground.chain }, { on := 0, ground := Go.Ground.phase }, { on := 1, ground := Go.Ground.phase }, { on := 2, ground := Go.Ground.phase }, { on := 3, ground := Go.Ground.phase }, { on := 4, ground := Go.Ground.phase }, { on := 5, ground := Go.Ground.phase }, { on := 6, ground := Go.Ground.phase }, { on := 7, ground := Go.Ground.phase }, { on := 8, ground := Go.Ground.phase }, { on := 9, ground := Go.Ground.phase }, { on := 10, ground := Go.Ground.phase }, { on := 11, ground := Go.Ground.phase }], guard := none }) (v := ?vz12) rfl (by kernel_rfl) (by kernel_rfl) (by kernel_rfl) (fun _ _ _ h => h) (Or.inl ⟨by rfl, ?yz12⟩) (by assumption) ?rz12
      case yz12 => ((intro w hSw; (try dsimp only at hSw); go_simp) <;> with_reducible rfl)
      try simp only [Act.put, List.setIfInBounds_toArray, List.set_cons_zero, List.set_cons_succ]
      refine wpAnyH_done (by kernel_rfl) ?_ _
      go_wp2_with fail
      rw [HV.out.1, HV.out.2]
      have hO := (set3_only w2 w.heap.size (.int .i64 (at_ x 0)) (.int .i64 (at_ x 1)) (.slice A' (x.length - 3) (c2 - 3))).trans (drew_only _ _)
      have hH : (set3 w2 w.heap.size (.int .i64 (at_ x 0)) (.int .i64 (at_ x 1)) (.slice A' (x.length - 3) (c2 - 3))).drew.heap[w.heap.size]? = _ := set3_heap (.int .i64 (at_ x 0)) (.int .i64 (at_ x 1)) (.slice A' (x.length - 3) (c2 - 3)) HX2.out
      unfold set3 at hO hH
      generalize (((w2.setCell ⟨w.heap.size, 0, none⟩ (.int .i64 (at_ x 0))).setCell ⟨w.heap.size, 1, none⟩ (.int .i64 (at_ x 1))).setCell ⟨w.heap.size, 2, none⟩ (.slice A' (x.length - 3) (c2 - 3))).drew = w9 at hO hH ⊢
      have r0 : World.cell? w9 ⟨w.heap.size, 0, none⟩ = some (.int .i64 (at_ x 0)) := cell_of_heap hH 0
      have r1 : World.cell? w9 ⟨w.heap.size, 1, none⟩ = some (.int .i64 (at_ x 1)) := cell_of_heap hH 1
      have r2 : World.cell? w9 ⟨w.heap.size, 2, none⟩ = some (.slice A' (x.length - 3) (c2 - 3)) := cell_of_heap hH 2
      have R9 := R_only R2.out hO (fun k hk => by have h1 := hk; simp at h1; omega)
      obtain ⟨_, _, C9⟩ := Kd.R_reads' R9
      have CD : Kd.C (Kd.int .u8) w9 A' (x.drop 3).length (x.drop 3) := Kd.C_of_reads (h1 := fun _ => rfl) (HA.out w9 (Kd.reads_of_C C9))
      have hdl : (x.drop 3).length = x.length - 3 := by rw [List.length_drop]
      refine bodyPost_ret (v := .tuple #[.agg #[.int .i64 (at_ x 0), .int .i64 (at_ x 1), .slice A' (x.length - 3) (c2 - 3)], .nilIface]) (by simp [results, Tryd.results12, go_sem, r0, r1, r2]) rfl ?_
      rw [HD.out.1, HD.out.2.1, HD.out.2.2, HE.out]
      exact ⟨_, _, rfl, .inl ⟨rfl, rfl⟩, ⟨A', c2 - 3, by rw [hdl], by have := HC3.out; simpa using this, CD⟩, (bonly B2 hO (Nat.le_refl _)).out⟩
end Go.Proofs.YtnigocoanlaiiaaDoor.PE

