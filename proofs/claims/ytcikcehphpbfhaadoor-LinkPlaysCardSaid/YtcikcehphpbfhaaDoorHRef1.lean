/- link: the reference's At and Tick. -/
import Derived.Test.YtcikcehphpbfhaaDoorHRef0
import Derived.Deep.RegionHeld3
namespace Go.Proofs.YtcikcehphpbfhaaDoor.PE
open Go.RowKit Go.Extern.Stop Go.Stop Go.Extern Go.Proofs.YtcikcehphpbfhaaDoorW.PrintWords Go.Proofs.YtcikcehphpbfhaaDoorW.PrintLast Go.Proofs.YtcikcehphpbfhaaDoorW.PrintMore
set_option linter.unusedVariables false
set_option linter.unusedSimpArgs false
def atR (F : Int) (st : Nat → LinkV) (ch : Int) : LinkV := if 0 ≤ ch ∧ ch ≤ 15 then ⟨(st ch.toNat).had, (st ch.toNat).seq, (st ch.toNat).age, dataR F st ch⟩ else LinkV.zero
set_option maxHeartbeats 8000000 in
set_option maxRecDepth 100000 in
theorem RAt_calls {g : Nat} {F : Int} {ok : Nat → Prop} {st : Nat → LinkV} (w : World) (h : RK w g F ok st) (ch : Int) :
    Calls Tryd.prog 21 #[.pointer (some ⟨g, 0, none⟩), .int .i64 ch] w fun e w' => ∃ v, e = .returned (.agg #[.bool (atR F st ch).had, .int .i64 (atR F st ch).seq, .int .i64 (atR F st ch).age, v]) ∧ Kd.R (Kd.int .u8) 5 w' w.heap.size (fun _ => True) v (atR F st ch).data ∧ Below w.heap.size w w' := by
  have B : Aside0 (Below w.heap.size w (w.alloc (.cells #[.bool false, .int .i64 0, .int .i64 0, .slice none 0 0] 43))) := balloc ⟨Below.refl _ _⟩ _
  by_cases h0 : ch < 0
  · have d0 : decide (ch < 0) = true := decide_eq_true h0
    have hz : atR F st ch = ⟨false, 0, 0, []⟩ := by unfold atR; rw [if_neg (by omega)]; rfl
    rw [hz]
    clear h hz
    go_enter Tryd.func21, Tryd.ntmps21
    go_wp2_with fail
    exact bodyPost_ret (v := .agg #[.bool false, .int .i64 0, .int .i64 0, .slice none 0 0]) (by simp [results, Tryd.results21, go_sem]) rfl ⟨_, rfl, Kd.R_nil _ _ _ _ _, B.out⟩
  have d0 : decide (ch < 0) = false := decide_eq_false h0
  by_cases h1 : 15 < ch
  · have d1 : decide (15 < ch) = true := decide_eq_true h1
    have hz : atR F st ch = ⟨false, 0, 0, []⟩ := by unfold atR; rw [if_neg (by omega)]; rfl
    rw [hz]
    clear h hz
    go_enter Tryd.func21, Tryd.ntmps21
    go_wp2_with fail
    exact bodyPost_ret (v := .agg #[.bool false, .int .i64 0, .int .i64 0, .slice none 0 0]) (by simp [results, Tryd.results21, go_sem]) rfl ⟨_, rfl, Kd.R_nil _ _ _ _ _, B.out⟩
  have d1 : decide (15 < ch) = false := decide_eq_false h1
  have hi : 0 ≤ ch ∧ ch < 16 := by omega
  have hz : atR F st ch = ⟨(st ch.toNat).had, (st ch.toNat).seq, (st ch.toNat).age, dataR F st ch⟩ := by unfold atR; rw [if_pos (by omega)]
  rw [hz]
  clear hz
  have L := Aside0.mk h
  obtain ⟨u, c0, c1, c2, c3, hR⟩ := h.ch ch.toNat (by omega)
  obtain ⟨A0, cc0, rfl, -, -⟩ := Kd.R_reads hR
  clear hR h
  generalize (st ch.toNat).data.length = n0 at c3
  generalize (st ch.toNat).had = had at c0 ⊢
  generalize (st ch.toNat).seq = sq at c1 ⊢
  generalize (st ch.toNat).age = a at c2 ⊢
  have HG := heap_new w (.cells #[.bool false, .int .i64 0, .int .i64 0, .slice none 0 0] 43)
  replace c0 := bcellA B c0
  replace c1 := bcellA B c1
  replace c2 := bcellA B c2
  replace c3 := bcellA B c3
  have L1 := Aside0.mk (L.out.below B.out)
  go_enter Tryd.func21, Tryd.ntmps21
  go_upto_region 1 with fail
  obtain ⟨W1, hW⟩ : ∃ W1, W1 = (w.alloc (.cells #[.bool false, .int .i64 0, .int .i64 0, .slice none 0 0] 43)) := ⟨_, rfl⟩
  rw [← hW] at HG B L1 c0 c1 c2 c3 ⊢
  clear hW
  go_wp2_with fail
  have B2 : Aside0 (Below W1.heap.size W1 (W1.alloc (.cells #[.bool had, .int .i64 sq, .int .i64 a, .slice A0 n0 cc0] 43))) := balloc ⟨Below.refl _ _⟩ _
  have HT := heap_new W1 (.cells #[.bool had, .int .i64 sq, .int .i64 a, .slice A0 n0 cc0] 43)
  have HLT := Aside0.mk (heap_lt HG)
  have HGA := Aside0.mk (heap_below B2 HG)
  have HTA := Aside0.mk HT
  have L2 := Aside0.mk (L1.out.below B2.out)
  clear c0 c1 c2 c3 HG HT
  refine (RFresh_calls _ L2.out ch).mono ?_
  rintro e w4 ⟨v, rfl, hR, hb⟩
  have B3 : Aside0 (Below W1.heap.size W1 w4) := btrans B2 ⟨hb⟩
  have HT4 := heap_below ⟨hb⟩ HTA.out
  have HG4 := heap_below ⟨hb⟩ HGA.out
  obtain ⟨A', c', rfl, -, -⟩ := Kd.R_reads hR
  have HR := Aside0.mk hR
  clear hR hb B2 L2
  have q0 : World.cell? w4 ⟨W1.heap.size, 0, none⟩ = some (.bool had) := cell_of_heap HT4 0
  have q1 : World.cell? w4 ⟨W1.heap.size, 1, none⟩ = some (.int .i64 sq) := cell_of_heap HT4 1
  have q2 : World.cell? w4 ⟨W1.heap.size, 2, none⟩ = some (.int .i64 a) := cell_of_heap HT4 2
  have q3 : World.cell? w4 ⟨W1.heap.size, 3, none⟩ = some (.slice A0 n0 cc0) := cell_of_heap HT4 3
  have g3 := frozen_of_heap HT4 3
  generalize hys : (dataR F st ch).length = ny
  have HYS := Aside0.mk hys
  clear hys
  go_upto_region 6 with fail
  have hne : W1.heap.size ≠ w.heap.size := by have := HLT.out; omega
  have HT5 : (w4.setCell ⟨W1.heap.size, 3, none⟩ (.slice A' ny c')).heap[W1.heap.size]? = some (.cells #[.bool had, .int .i64 sq, .int .i64 a, .slice A' ny c'] 43 (0, 0)) := by simpa using blk_set HT4 3 (.slice A' ny c')
  have HG5 : (w4.setCell ⟨W1.heap.size, 3, none⟩ (.slice A' ny c')).heap[w.heap.size]? = some (.cells #[.bool false, .int .i64 0, .int .i64 0, .slice none 0 0] 43 (0, 0)) := blk_far HG4 (p := ⟨W1.heap.size, 3, none⟩) (Ne.symm hne) _
  have B5 : Aside0 (Below w.heap.size w (w4.setCell ⟨W1.heap.size, 3, none⟩ (.slice A' ny c'))) := ⟨(btrans B B3).out.setCell (by have := HLT.out; show w.heap.size ≤ W1.heap.size; omega) _⟩
  have R5 := Aside0.mk (R_but HR.out (g := W1.heap.size) (by simp) (w1 := w4.setCell ⟨W1.heap.size, 3, none⟩ (.slice A' ny c')) (fun k hk => Below.heap_setCell _ _ _ k hk))
  clear q0 q1 q2 q3 g3 HT4 HG4 HGA HTA
  generalize w4.setCell ⟨W1.heap.size, 3, none⟩ (.slice A' ny c') = w5 at HT5 HG5 B5 R5 ⊢
  have q0 : World.cell? w5 ⟨W1.heap.size, 0, none⟩ = some (.bool had) := cell_of_heap HT5 0
  have q1 : World.cell? w5 ⟨W1.heap.size, 1, none⟩ = some (.int .i64 sq) := cell_of_heap HT5 1
  have q2 : World.cell? w5 ⟨W1.heap.size, 2, none⟩ = some (.int .i64 a) := cell_of_heap HT5 2
  have q3 : World.cell? w5 ⟨W1.heap.size, 3, none⟩ = some (.slice A' ny c') := cell_of_heap HT5 3
  have k0 : World.cell? w5 ⟨w.heap.size, 0, none⟩ = some (.bool false) := cell_of_heap HG5 0
  have k1 : World.cell? w5 ⟨w.heap.size, 1, none⟩ = some (.int .i64 0) := cell_of_heap HG5 1
  have k2 : World.cell? w5 ⟨w.heap.size, 2, none⟩ = some (.int .i64 0) := cell_of_heap HG5 2
  have k3 : World.cell? w5 ⟨w.heap.size, 3, none⟩ = some (.slice none 0 0) := cell_of_heap HG5 3
  have f0 := frozen_of_heap HG5 0
  have f1 := frozen_of_heap HG5 1
  have f2 := frozen_of_heap HG5 2
  have f3 := frozen_of_heap HG5 3
  have HG6 := Aside0.mk HG5
  clear HG5 HT5
  go_wp2_with fail
  have hys := HYS.out
  have R6 := Kd.R_lower (base' := w.heap.size) (R_but R5.out (g := w.heap.size) (by have := HLT.out; simp; omega) (set4_but w5 w.heap.size (.bool had) (.int .i64 sq) (.int .i64 a) (.slice A' (dataR F st ch).length c'))) (by have := HLT.out; simp; omega)
  have H6 := set4_heap (.bool had) (.int .i64 sq) (.int .i64 a) (.slice A' ny c') HG6.out
  have B6 := set4_below B5.out (Nat.le_refl _) (.bool had) (.int .i64 sq) (.int .i64 a) (.slice A' ny c')
  rw [hys] at R6
  unfold set4 at R6 H6 B6
  generalize (((w5.setCell ⟨w.heap.size, 0, none⟩ (.bool had)).setCell ⟨w.heap.size, 1, none⟩ (.int .i64 sq)).setCell ⟨w.heap.size, 2, none⟩ (.int .i64 a)).setCell ⟨w.heap.size, 3, none⟩ (.slice A' ny c') = w6 at R6 H6 B6 ⊢
  have r0 : World.cell? w6 ⟨w.heap.size, 0, none⟩ = some (.bool had) := cell_of_heap H6 0
  have r1 : World.cell? w6 ⟨w.heap.size, 1, none⟩ = some (.int .i64 sq) := cell_of_heap H6 1
  have r2 : World.cell? w6 ⟨w.heap.size, 2, none⟩ = some (.int .i64 a) := cell_of_heap H6 2
  have r3 : World.cell? w6 ⟨w.heap.size, 3, none⟩ = some (.slice A' ny c') := cell_of_heap H6 3
  exact bodyPost_ret (v := .agg #[.bool had, .int .i64 sq, .int .i64 a, .slice A' ny c']) (by simp [results, Tryd.results21, go_sem, r0, r1, r2, r3]) rfl ⟨_, rfl, R6, B6⟩
/-- One tick of a channel of the reference. -/
def tickR (F : Int) (c : LinkV) : LinkV := if c.had = true then ⟨c.had, c.seq, min (c.age + 1) (F + 1), c.data⟩ else c
def tickTo (F : Int) (st : Nat → LinkV) (k : Nat) : Nat → LinkV := fun i => if i < k then tickR F (st i) else st i
theorem tickTo_done (F : Int) (st : Nat → LinkV) {W : World} {g : Nat} {ok : Nat → Prop} (h : RK W g F ok (tickTo F st 16)) : RK W g F ok (fun i => tickR F (st i)) := by
  have e : ∀ i, i < 16 → tickTo F st 16 i = tickR F (st i) := fun i hi => by unfold tickTo; rw [if_pos hi]
  exact ⟨h.blk, h.cF, fun i hi => by have := h.ch i hi; rw [e i hi] at this; exact this, h.hF, fun i hi => by have := h.hst i hi; rw [e i hi] at this; exact this, h.hok⟩
theorem tickTo_skip (F : Int) (st : Nat → LinkV) (k : Nat) (h : (st k).had = false) : tickTo F st (k + 1) = tickTo F st k := by
  funext i
  unfold tickTo
  by_cases hi : i < k
  · rw [if_pos hi, if_pos (by omega)]
  · by_cases hk : i = k
    · subst hk
      rw [if_pos (by omega), if_neg hi]
      unfold tickR; rw [if_neg (by rw [h]; decide)]
    · rw [if_neg hi, if_neg (by omega)]
theorem RK_age {W : World} {g : Nat} {F : Int} {ok : Nat → Prop} {st : Nat → LinkV} (k : Nat) (hk : k < 16) (h : RK W g F ok (tickTo F st k)) (hh : (st k).had = true) :
    RK (W.setCell ⟨g, 1 + k * 4 + 2, none⟩ (.int .i64 (min ((st k).age + 1) (F + 1)))) g F ok (tickTo F st (k + 1)) := by
  have e0 : tickTo F st k k = st k := by unfold tickTo; rw [if_neg (by omega)]
  have e1 : tickTo F st (k + 1) k = ⟨(st k).had, (st k).seq, min ((st k).age + 1) (F + 1), (st k).data⟩ := by unfold tickTo tickR; rw [if_pos (by omega), if_pos hh]
  have e2 : ∀ i, i ≠ k → tickTo F st (k + 1) i = tickTo F st k i := fun i hi => by
    unfold tickTo
    by_cases h1 : i < k
    · rw [if_pos h1, if_pos (by omega)]
    · rw [if_neg h1, if_neg (by omega)]
  obtain ⟨cs, hb⟩ := h.blk
  have hF := h.hF
  refine ⟨⟨_, blk_set hb _ _⟩, ?_, ?_, h.hF, ?_, h.hok⟩
  · rw [cell_set_ne _ (by omega)]; exact h.cF
  · intro i hi
    obtain ⟨v, c0, c1, c2, c3, hR⟩ := h.ch i hi
    have hR' := Kd.R_step hR (w1 := W.setCell ⟨g, 1 + k * 4 + 2, none⟩ (.int .i64 (min ((st k).age + 1) (F + 1)))) (fun j hj _ => Below.heap_setCell _ _ _ j (h.hok j hj))
    by_cases hik : i = k
    · subst hik
      rw [e0] at c0 c1 c2 hR'
      rw [e1]
      refine ⟨v, ?_, ?_, cell_set_eq _ hb c2, ?_, hR'⟩
      · rw [cell_set_ne _ (by omega)]; exact c0
      · rw [cell_set_ne _ (by omega)]; exact c1
      · rw [cell_set_ne _ (by omega)]; exact c3
    · rw [e2 i hik]
      refine ⟨v, ?_, ?_, ?_, ?_, hR'⟩
      · rw [cell_set_ne _ (by omega)]; exact c0
      · rw [cell_set_ne _ (by omega)]; exact c1
      · rw [cell_set_ne _ (by omega)]; exact c2
      · rw [cell_set_ne _ (by omega)]; exact c3
  · intro i hi
    have hs := h.hst i hi
    by_cases hik : i = k
    · subst hik
      rw [e0] at hs
      rw [e1]
      dsimp only
      omega
    · rw [e2 i hik]; exact hs
set_option maxHeartbeats 8000000 in
set_option maxRecDepth 100000 in
theorem RTick_calls {g : Nat} {F : Int} {ok : Nat → Prop} {st : Nat → LinkV} (w : World) (h : RK w g F ok st) :
    Calls Tryd.prog 13 #[.pointer (some ⟨g, 0, none⟩)] w fun e w' => e = .returned (.tuple #[]) ∧ RK w' g F ok (fun i => tickR F (st i)) ∧ Only g w w' := by
  have L0 : Aside0 (RK w g F ok (tickTo F st 0)) := ⟨by
    have e : tickTo F st 0 = st := by funext i; unfold tickTo; rw [if_neg (by omega)]
    rw [e]; exact h⟩
  have O0 : Aside0 (Only g w w) := ⟨Only.of_below g (Below.refl _ _)⟩
  clear h
  go_enter Tryd.func13, Tryd.ntmps13
  go_wp2_with fail
  go_loopw [2] (fun i W => ∃ k : Nat, k ≤ 16 ∧ i = .int .i64 k ∧ Aside0 (RK W g F ok (tickTo F st k)) ∧ Aside0 (Only g w W)) (fun i _ => 16 - (intOf i).toNat)
  case atStart => exact ⟨0, by omega, rfl, L0, O0⟩
  case round =>
    obtain ⟨k, hk, rfl, L, O⟩ := hrel
    by_cases hlt : (k : Int) < 16
    · have dk : decide ((k : Int) < 16) = true := decide_eq_true hlt
      have hi : 0 ≤ (k : Int) ∧ (k : Int) < 16 := by omega
      have hkk : k < 16 := by omega
      have e0 : tickTo F st k k = st k := by unfold tickTo; rw [if_neg (by omega)]
      obtain ⟨v, c0, c1, c2, c3, hR⟩ := L.out.ch k hkk
      rw [e0] at c0 c1 c2
      obtain ⟨cs, hb⟩ := L.out.blk
      have hF := L.out.cF
      have hbF := L.out.hF
      have hs := L.out.hst k hkk
      rw [e0] at hs
      have HB := Aside0.mk hb
      have HM := Aside0.mk (show 16 - (k + 1) < 16 - k by omega)
      have HN := Aside0.mk (show k + 1 ≤ 16 by omega)
      have HW64 := Aside0.mk (show wrap64 ((k : Int) + 1) = k + 1 by unfold wrap64; omega)
      have HWA := Aside0.mk (show IntKind.i64.wrap ((st k).age + 1) = (st k).age + 1 by rw [i64_w]; unfold wrap64; omega)
      have HWF := Aside0.mk (show IntKind.i64.wrap (F + 1) = F + 1 by rw [i64_w]; unfold wrap64; omega)
      clear c1 c3 hR hb hbF hs e0
      cases hh : (st k).had with
      | false =>
        rw [hh] at c0
        have L2 := Aside0.mk L.out
        rw [← tickTo_skip F st k hh] at L2
        have hw64 := HW64.out
        clear c2 hF hh
        go_wp2_with fail
        go_roundw
        case rel => exact ⟨k + 1, HN.out, rfl, L2, O⟩
        case measure => simpa [intOf] using HM.out
      | true =>
        rw [hh] at c0
        have HH := Aside0.mk hh
        have L2 := Aside0.mk ((RK_age k hkk L.out hh).below (below_drew (Below.refl _ _)))
        clear hh
        generalize (st k).age = a at c2 HWA L2
        go_upto_region 4 with fail
        have zf := frozen_of_heap HB.out (1 + k * 4 + 2)
        have c2d : World.cell? wr.drew ⟨g, 1 + k * 4 + 2, none⟩ = some (.int .i64 a) := c2
        have hFd : World.cell? wr.drew ⟨g, 0, none⟩ = some (.int .i64 F) := hF
        have zfd : World.frozen? wr.drew ⟨g, 1 + k * 4 + 2, none⟩ = false := zf
        refine wp_region_held_drew (S := (fun W => W.cell? ⟨g, 0, none⟩ = some (.int .i64 F))) (by kernel_rfl) ?_ (fun hHeld => ?_)
        · exact hFd
        refine wpAnyH_take (i := 0) (oi := { dst := some 14, op := Go.Op.move (Go.Operand.tmp 0), type := 26, pos := "ref.go:40", after := #[], guard := none }) (v := ?vz0) rfl (by kernel_rfl) (by kernel_rfl) (by kernel_rfl) (fun _ _ _ h => h) (Or.inl ⟨by rfl, ?yz0⟩) (by assumption) ?rz0
        case yz0 => ((intro w hSw; (try dsimp only at hSw); go_simp) <;> with_reducible rfl)
        try simp only [Act.put, List.setIfInBounds_toArray, List.set_cons_zero, List.set_cons_succ]
        refine wpAnyH_take (i := 1) (oi := { dst := some 15, op := Go.Op.move (Go.Operand.tmp 2), type := 3, pos := "ref.go:40", after := #[], guard := none }) (v := ?vz1) rfl (by kernel_rfl) (by kernel_rfl) (by kernel_rfl) (fun _ _ _ h => h) (Or.inl ⟨by rfl, ?yz1⟩) (by assumption) ?rz1
        case yz1 => ((intro w hSw; (try dsimp only at hSw); go_simp) <;> with_reducible rfl)
        try simp only [Act.put, List.setIfInBounds_toArray, List.set_cons_zero, List.set_cons_succ]
        refine wpAnyH_take (i := 2) (oi := { dst := some 16, op := Go.Op.move (Go.Operand.tmp 0), type := 26, pos := "ref.go:40", after := #[], guard := none }) (v := ?vz2) rfl (by kernel_rfl) (by kernel_rfl) (by kernel_rfl) (fun _ _ _ h => h) (Or.inl ⟨by rfl, ?yz2⟩) (by assumption) ?rz2
        case yz2 => ((intro w hSw; (try dsimp only at hSw); go_simp) <;> with_reducible rfl)
        try simp only [Act.put, List.setIfInBounds_toArray, List.set_cons_zero, List.set_cons_succ]
        refine wpAnyH_take (i := 3) (oi := { dst := some 17, op := Go.Op.move (Go.Operand.tmp 2), type := 3, pos := "ref.go:40", after := #[], guard := none }) (v := ?vz3) rfl (by kernel_rfl) (by kernel_rfl) (by kernel_rfl) (fun _ _ _ h => h) (Or.inl ⟨by rfl, ?yz3⟩) (by assumption) ?rz3
        case yz3 => ((intro w hSw; (try dsimp only at hSw); go_simp) <;> with_reducible rfl)
        try simp only [Act.put, List.setIfInBounds_toArray, List.set_cons_zero, List.set_cons_succ]
        refine wpAnyH_take (i := 4) (oi := { dst := some 18, op := Go.Op.nilCheck (Go.Operand.tmp 16), type := 0, pos := "ref.go:40", after := #[{ on := 2, ground := Go.Ground.data }], guard := none }) (v := ?vz4) rfl (by kernel_rfl) (by kernel_rfl) (by kernel_rfl) (fun _ _ _ h => h) (Or.inl ⟨by rfl, ?yz4⟩) (by assumption) ?rz4
        case yz4 => ((intro w hSw; (try dsimp only at hSw); go_simp) <;> with_reducible rfl)
        try simp only [Act.put, List.setIfInBounds_toArray, List.set_cons_zero, List.set_cons_succ]
        refine wpAnyH_take (i := 5) (oi := { dst := some 19, op := Go.Op.fieldAddr 60 (Go.Operand.tmp 18) 1, type := 0, pos := "ref.go:40", after := #[{ on := 4, ground := Go.Ground.data }], guard := none }) (v := ?vz5) rfl (by kernel_rfl) (by kernel_rfl) (by kernel_rfl) (fun _ _ _ h => h) (Or.inl ⟨by rfl, ?yz5⟩) (by assumption) ?rz5
        case yz5 => ((intro w hSw; (try dsimp only at hSw); go_simp) <;> with_reducible rfl)
        try simp only [Act.put, List.setIfInBounds_toArray, List.set_cons_zero, List.set_cons_succ]
        refine wpAnyH_take (i := 6) (oi := { dst := some 20, op := Go.Op.indexAddr 58 (Go.Operand.tmp 19) (Go.Operand.tmp 17), type := 0, pos := "ref.go:40", after := #[{ on := 5, ground := Go.Ground.data }, { on := 3, ground := Go.Ground.data }], guard := none }) (v := ?vz6) rfl (by kernel_rfl) (by kernel_rfl) (by kernel_rfl) (fun _ _ _ h => h) (Or.inl ⟨by rfl, ?yz6⟩) (by assumption) ?rz6
        case yz6 => ((intro w hSw; (try dsimp only at hSw); go_simp) <;> with_reducible rfl)
        try simp only [Act.put, List.setIfInBounds_toArray, List.set_cons_zero, List.set_cons_succ]
        refine wpAnyH_take (i := 7) (oi := { dst := some 21, op := Go.Op.fieldAddr 43 (Go.Operand.tmp 20) 2, type := 0, pos := "ref.go:40", after := #[{ on := 6, ground := Go.Ground.data }], guard := none }) (v := ?vz7) rfl (by kernel_rfl) (by kernel_rfl) (by kernel_rfl) (fun _ _ _ h => h) (Or.inl ⟨by rfl, ?yz7⟩) (by assumption) ?rz7
        case yz7 => ((intro w hSw; (try dsimp only at hSw); go_simp) <;> with_reducible rfl)
        try simp only [Act.put, List.setIfInBounds_toArray, List.set_cons_zero, List.set_cons_succ]
        refine wpAnyH_take (i := 10) (oi := { dst := some 24, op := Go.Op.move (Go.Operand.tmp 0), type := 26, pos := "ref.go:40", after := #[], guard := none }) (v := ?vz10) rfl (by kernel_rfl) (by kernel_rfl) (by kernel_rfl) (fun _ _ _ h => h) (Or.inl ⟨by rfl, ?yz10⟩) (by assumption) ?rz10
        case yz10 => ((intro w hSw; (try dsimp only at hSw); go_simp) <;> with_reducible rfl)
        try simp only [Act.put, List.setIfInBounds_toArray, List.set_cons_zero, List.set_cons_succ]
        refine wpAnyH_take (i := 11) (oi := { dst := some 25, op := Go.Op.nilCheck (Go.Operand.tmp 24), type := 0, pos := "ref.go:40", after := #[{ on := 10, ground := Go.Ground.data }], guard := none }) (v := ?vz11) rfl (by kernel_rfl) (by kernel_rfl) (by kernel_rfl) (fun _ _ _ h => h) (Or.inl ⟨by rfl, ?yz11⟩) (by assumption) ?rz11
        case yz11 => ((intro w hSw; (try dsimp only at hSw); go_simp) <;> with_reducible rfl)
        try simp only [Act.put, List.setIfInBounds_toArray, List.set_cons_zero, List.set_cons_succ]
        refine wpAnyH_take (i := 12) (oi := { dst := some 26, op := Go.Op.fieldAddr 60 (Go.Operand.tmp 25) 0, type := 0, pos := "ref.go:40", after := #[{ on := 11, ground := Go.Ground.data }], guard := none }) (v := ?vz12) rfl (by kernel_rfl) (by kernel_rfl) (by kernel_rfl) (fun _ _ _ h => h) (Or.inl ⟨by rfl, ?yz12⟩) (by assumption) ?rz12
        case yz12 => ((intro w hSw; (try dsimp only at hSw); go_simp) <;> with_reducible rfl)
        try simp only [Act.put, List.setIfInBounds_toArray, List.set_cons_zero, List.set_cons_succ]
        refine wpAnyH_take (i := 13) (oi := { dst := some 27, op := Go.Op.load 3 (Go.Operand.tmp 26), type := 3, pos := "ref.go:40", after := #[{ on := 12, ground := Go.Ground.data }], guard := none }) (v := ?vz13) rfl (by kernel_rfl) (by kernel_rfl) (by kernel_rfl) (fun _ _ _ h => h) (Or.inl ⟨by rfl, ?yz13⟩) (by assumption) ?rz13
        case yz13 => ((intro w hSw; (try dsimp only at hSw); go_simp) <;> with_reducible rfl)
        try simp only [Act.put, List.setIfInBounds_toArray, List.set_cons_zero, List.set_cons_succ]
        refine wpAnyH_take (i := 14) (oi := { dst := some 28, op := Go.Op.binOp Go.BinOp.add 3 (Go.Operand.tmp 27) (Go.Operand.const (Go.Value.int Go.IntKind.i64 1)) 3, type := 3, pos := "ref.go:40", after := #[{ on := 13, ground := Go.Ground.data }], guard := none }) (v := ?vz14) rfl (by kernel_rfl) (by kernel_rfl) (by kernel_rfl) (fun _ _ _ h => h) (Or.inl ⟨by rfl, ?yz14⟩) (by assumption) ?rz14
        case yz14 => ((intro w hSw; (try dsimp only at hSw); go_simp) <;> with_reducible rfl)
        try simp only [Act.put, List.setIfInBounds_toArray, List.set_cons_zero, List.set_cons_succ]
        refine wpAnyH_take (i := 16) (oi := { dst := some 30, op := Go.Op.nilCheck (Go.Operand.tmp 14), type := 0, pos := "ref.go:40", after := #[{ on := 0, ground := Go.Ground.data }], guard := none }) (v := ?vz16) rfl (by kernel_rfl) (by kernel_rfl) (by kernel_rfl) (fun _ _ _ h => h) (Or.inl ⟨by rfl, ?yz16⟩) (by assumption) ?rz16
        case yz16 => ((intro w hSw; (try dsimp only at hSw); go_simp) <;> with_reducible rfl)
        try simp only [Act.put, List.setIfInBounds_toArray, List.set_cons_zero, List.set_cons_succ]
        refine wpAnyH_take (i := 17) (oi := { dst := some 31, op := Go.Op.fieldAddr 60 (Go.Operand.tmp 30) 1, type := 0, pos := "ref.go:40", after := #[{ on := 16, ground := Go.Ground.data }], guard := none }) (v := ?vz17) rfl (by kernel_rfl) (by kernel_rfl) (by kernel_rfl) (fun _ _ _ h => h) (Or.inl ⟨by rfl, ?yz17⟩) (by assumption) ?rz17
        case yz17 => ((intro w hSw; (try dsimp only at hSw); go_simp) <;> with_reducible rfl)
        try simp only [Act.put, List.setIfInBounds_toArray, List.set_cons_zero, List.set_cons_succ]
        refine wpAnyH_ready (rs := [8]) (by kernel_rfl) (by simp) ?_
        refine AllReadyH.cons (o := { dst := some 22, op := Go.Op.load 3 (Go.Operand.tmp 21), type := 3, pos := "ref.go:40", after := #[{ on := 7, ground := Go.Ground.data }], guard := none }) rfl (fun K hK => ?kz8) AllReadyH.nil
        go_simp
        refine hK.out _ _ ?_ (fun hHeld => ?_)
        · exact hFd
        clear hK K
        try simp only [Act.put, List.setIfInBounds_toArray, List.set_cons_zero, List.set_cons_succ]
        refine wpAnyH_take (i := 9) (oi := { dst := some 23, op := Go.Op.binOp Go.BinOp.add 3 (Go.Operand.tmp 22) (Go.Operand.const (Go.Value.int Go.IntKind.i64 1)) 3, type := 3, pos := "ref.go:40", after := #[{ on := 8, ground := Go.Ground.data }], guard := none }) (v := ?vz9) rfl (by kernel_rfl) (by kernel_rfl) (by kernel_rfl) (fun _ _ _ h => h) (Or.inl ⟨by rfl, ?yz9⟩) (by assumption) ?rz9
        case yz9 => ((intro w hSw; (try dsimp only at hSw); go_simp) <;> with_reducible rfl)
        try simp only [Act.put, List.setIfInBounds_toArray, List.set_cons_zero, List.set_cons_succ]
        refine wpAnyH_take (i := 15) (oi := { dst := some 29, op := Go.Op.call { callee := Go.Callee.builtin Go.Builtin.min, args := #[Go.Operand.tmp 23, Go.Operand.tmp 28], argTypes := #[3, 3] }, type := 3, pos := "ref.go:40", after := #[{ on := 9, ground := Go.Ground.data }, { on := 14, ground := Go.Ground.data }], guard := none }) (v := ?vz15) rfl (by kernel_rfl) (by kernel_rfl) (by kernel_rfl) (fun _ _ _ h => h) (Or.inl ⟨by rfl, ?yz15⟩) (by assumption) ?rz15
        case yz15 => ((intro w hSw; (try dsimp only at hSw); go_simp) <;> with_reducible rfl)
        try simp only [Act.put, List.setIfInBounds_toArray, List.set_cons_zero, List.set_cons_succ]
        refine wpAnyH_take (i := 18) (oi := { dst := some 32, op := Go.Op.indexAddr 58 (Go.Operand.tmp 31) (Go.Operand.tmp 15), type := 0, pos := "ref.go:40", after := #[{ on := 17, ground := Go.Ground.data }, { on := 1, ground := Go.Ground.data }, { on := 0, ground := Go.Ground.phase }, { on := 1, ground := Go.Ground.phase }, { on := 2, ground := Go.Ground.phase }, { on := 3, ground := Go.Ground.phase }, { on := 4, ground := Go.Ground.phase }, { on := 5, ground := Go.Ground.phase }, { on := 6, ground := Go.Ground.phase }, { on := 7, ground := Go.Ground.phase }, { on := 8, ground := Go.Ground.phase }, { on := 9, ground := Go.Ground.phase }, { on := 10, ground := Go.Ground.phase }, { on := 11, ground := Go.Ground.phase }, { on := 12, ground := Go.Ground.phase }, { on := 13, ground := Go.Ground.phase }, { on := 14, ground := Go.Ground.phase }, { on := 15, ground := Go.Ground.phase }], guard := none }) (v := ?vz18) rfl (by kernel_rfl) (by kernel_rfl) (by kernel_rfl) (fun _ _ _ h => h) (Or.inl ⟨by rfl, ?yz18⟩) (by assumption) ?rz18
        case yz18 => ((intro w hSw; (try dsimp only at hSw); go_simp) <;> with_reducible rfl)
        try simp only [Act.put, List.setIfInBounds_toArray, List.set_cons_zero, List.set_cons_succ]
        refine wpAnyH_take (i := 19) (oi := { dst := some 33, op := Go.Op.fieldAddr 43 (Go.Operand.tmp 32) 2, type := 0, pos := "ref.go:40", after := #[{ on := 18, ground := Go.Ground.data }, { on := 0, ground := Go.Ground.phase }, { on := 1, ground := Go.Ground.phase }, { on := 2, ground := Go.Ground.phase }, { on := 3, ground := Go.Ground.phase }, { on := 4, ground := Go.Ground.phase }, { on := 5, ground := Go.Ground.phase }, { on := 6, ground := Go.Ground.phase }, { on := 7, ground := Go.Ground.phase }, { on := 8, ground := Go.Ground.phase }, { on := 9, ground := Go.Ground.phase }, { on := 10, ground := Go.Ground.phase }, { on := 11, ground := Go.Ground.phase }, { on := 12, ground := Go.Ground.phase }, { on := 13, ground := Go.Ground.phase }, { on := 14, ground := Go.Ground.phase }, { on := 15, ground := Go.Ground.phase }], guard := none }) (v := ?vz19) rfl (by kernel_rfl) (by kernel_rfl) (by kernel_rfl) (fun _ _ _ h => h) (Or.inl ⟨by rfl, ?yz19⟩) (by assumption) ?rz19
        case yz19 => ((intro w hSw; (try dsimp only at hSw); go_simp) <;> with_reducible rfl)
        try simp only [Act.put, List.setIfInBounds_toArray, List.set_cons_zero, List.set_cons_succ]
        refine wpAnyH_ready (rs := [20]) (by kernel_rfl) (by simp) ?_
        refine AllReadyH.cons (o := { dst := none, op := Go.Op.store 3 (Go.Operand.tmp 33) (Go.Operand.tmp 29), type := 0, pos := "ref.go:40", after := #[{ on := 19, ground := Go.Ground.data }, { on := 15, ground := Go.Ground.data }, { on := 0, ground := Go.Ground.phase }, { on := 1, ground := Go.Ground.phase }, { on := 2, ground := Go.Ground.phase }, { on := 3, ground := Go.Ground.phase }, { on := 4, ground := Go.Ground.phase }, { on := 5, ground := Go.Ground.phase }, { on := 6, ground := Go.Ground.phase }, { on := 7, ground := Go.Ground.phase }, { on := 8, ground := Go.Ground.phase }, { on := 9, ground := Go.Ground.phase }, { on := 10, ground := Go.Ground.phase }, { on := 11, ground := Go.Ground.phase }, { on := 12, ground := Go.Ground.phase }, { on := 13, ground := Go.Ground.phase }, { on := 14, ground := Go.Ground.phase }, { on := 15, ground := Go.Ground.phase }], guard := none }) rfl (fun K hK => ?kz20) AllReadyH.nil
        go_simp
        refine hK.out _ _ ?_ (fun hHeld => ?_)
        · rw [World.cell?_drew, cell_set_ne _ (by omega)]; exact hF
        clear hK K
        try simp only [Act.put, List.setIfInBounds_toArray, List.set_cons_zero, List.set_cons_succ]
        refine wpAnyH_done (by kernel_rfl) ?_ _
        rw [HWA.out, HWF.out]
        have O2 : Aside0 (Only g w (wr.setCell ⟨g, 1 + k * 4 + 2, none⟩ (.int .i64 (min (a + 1) (F + 1)))).drew) := ⟨(O.out.trans (set_only _ _ _ _)).trans (drew_only _ _)⟩
        have EM := Aside0.mk (show min (a + 1) (F + 1) = min a F + 1 by omega)
        have hw64 := HW64.out
        go_wp2_with fail
        go_roundw
        case rel => rw [EM.out] at L2 O2; exact ⟨k + 1, HN.out, rfl, L2, O2⟩
        case measure => simpa [intOf] using HM.out
    · have hkn : k = 16 := by omega
      subst hkn
      have dk : decide (((16 : Nat) : Int) < 16) = false := by decide
      go_wp2_with fail
      go_end0
      exact ⟨rfl, tickTo_done F st L.out, O.out⟩

end Go.Proofs.YtcikcehphpbfhaaDoor.PE

