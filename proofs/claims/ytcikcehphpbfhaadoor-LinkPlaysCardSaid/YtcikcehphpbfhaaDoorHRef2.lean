/- link: the reference's Take. -/
import Derived.Test.YtcikcehphpbfhaaDoorHRef1
import Derived.Test.YtcikcehphpbfhaaDoorHFresh
import Derived.Deep.RegionHeld3
namespace Go.Proofs.YtcikcehphpbfhaaDoor.PE
open Go.RowKit Go.Extern.Stop Go.Stop Go.Extern Go.Proofs.YtcikcehphpbfhaaDoorW.PrintWords Go.Proofs.YtcikcehphpbfhaaDoorW.PrintLast Go.Proofs.YtcikcehphpbfhaaDoorW.PrintMore
set_option linter.unusedVariables false
set_option linter.unusedSimpArgs false
def updR (st : Nat → LinkV) (i : Nat) (c : LinkV) : Nat → LinkV := fun j => if j = i then c else st j
theorem updR_same (st : Nat → LinkV) (i : Nat) (c : LinkV) : updR st i c i = c := by simp [updR]
theorem updR_other (st : Nat → LinkV) {i j : Nat} (c : LinkV) (h : j ≠ i) : updR st i c j = st j := by simp [updR, h]
def oldR (F : Int) (st : Nat → LinkV) (ch sq : Int) : Bool := isR F st ch && (decide ((sq - (st ch.toNat).seq + 256) % 256 < 1) || decide (16 < (sq - (st ch.toNat).seq + 256) % 256))
def takeRE (F : Int) (st : Nat → LinkV) (ch sq : Int) (n : Nat) : Int := if argF ch sq n then 1 else if oldR F st ch sq = true then 4 else 0
def takeRS (F : Int) (st : Nat → LinkV) (ch sq : Int) (xs : List Int) : Nat → LinkV := if takeRE F st ch sq xs.length = 0 then updR st ch.toNat ⟨true, sq, 0, xs⟩ else st
def set4o (w : World) (b o : Nat) (a0 a1 a2 a3 : Value) : World := (((w.setCell ⟨b, o, none⟩ a0).setCell ⟨b, o + 1, none⟩ a1).setCell ⟨b, o + 2, none⟩ a2).setCell ⟨b, o + 3, none⟩ a3
theorem set4o_only (w : World) (g o : Nat) (a0 a1 a2 a3 : Value) : Only g w (set4o w g o a0 a1 a2 a3) :=
  (((set_only _ _ _ _).trans (set_only _ _ _ _)).trans (set_only _ _ _ _)).trans (set_only _ _ _ _)
theorem set4o_ne (w : World) (g o k : Nat) (a0 a1 a2 a3 : Value) (h : k < o ∨ o + 3 < k) : (set4o w g o a0 a1 a2 a3).cell? ⟨g, k, none⟩ = w.cell? ⟨g, k, none⟩ := by
  unfold set4o
  rw [cell_set_ne _ (by omega), cell_set_ne _ (by omega), cell_set_ne _ (by omega), cell_set_ne _ (by omega)]
theorem RK_set {w W7 : World} {g : Nat} {F : Int} {ok : Nat → Prop} {st : Nat → LinkV} {v : Value} {xs : List Int} (h : RK w g F ok st) (hbig : ∀ k, w.heap.size ≤ k → ok k) (ch sq : Int) (hc : 0 ≤ ch ∧ ch ≤ 15) (hq : 0 ≤ sq ∧ sq ≤ 255) (hx : xs.length ≤ 16)
    (hb : Below w.heap.size w W7) (hR : Kd.R (Kd.int .u8) 5 W7 w.heap.size (fun _ => True) v xs) :
    RK (set4o W7 g (1 + ch.toNat * 4) (.bool true) (.int .i64 sq) (.int .i64 0) v) g F ok (updR st ch.toNat ⟨true, sq, 0, xs⟩) ∧ Only g w (set4o W7 g (1 + ch.toNat * 4) (.bool true) (.int .i64 sq) (.int .i64 0) v) := by
  have hlt := h.lt
  have h7 := h.below hb
  have hO : Only g W7 (set4o W7 g (1 + ch.toNat * 4) (.bool true) (.int .i64 sq) (.int .i64 0) v) := set4o_only _ _ _ _ _ _ _
  refine ⟨?_, (Only.of_below g hb).trans hO⟩
  have hi : ch.toNat < 16 := by omega
  obtain ⟨cs, hg⟩ := h7.blk
  obtain ⟨u, e0, e1, e2, e3, _⟩ := h7.ch _ hi
  have hF := h.hF
  generalize hW : W7.setCell ⟨g, 1 + ch.toNat * 4, none⟩ (.bool true) = V1
  obtain ⟨cs1, g1⟩ : ∃ cs1, V1.heap[g]? = some (.cells cs1 60 (0, 0)) := ⟨_, by rw [← hW]; exact blk_set hg _ _⟩
  have b0 : V1.cell? ⟨g, 1 + ch.toNat * 4, none⟩ = some (.bool true) := by rw [← hW]; exact cell_set_eq _ hg e0
  generalize hW2 : V1.setCell ⟨g, 1 + ch.toNat * 4 + 1, none⟩ (.int .i64 sq) = V2
  obtain ⟨cs2, g2⟩ : ∃ cs1, V2.heap[g]? = some (.cells cs1 60 (0, 0)) := ⟨_, by rw [← hW2]; exact blk_set g1 _ _⟩
  have b1 : V2.cell? ⟨g, 1 + ch.toNat * 4 + 1, none⟩ = some (.int .i64 sq) := by rw [← hW2]; exact cell_set_eq (u := .int .i64 (st ch.toNat).seq) _ g1 (by rw [← hW, cell_set_ne _ (by omega)]; exact e1)
  generalize hW3 : V2.setCell ⟨g, 1 + ch.toNat * 4 + 2, none⟩ (.int .i64 0) = V3
  obtain ⟨cs3, g3⟩ : ∃ cs1, V3.heap[g]? = some (.cells cs1 60 (0, 0)) := ⟨_, by rw [← hW3]; exact blk_set g2 _ _⟩
  have b2 : V3.cell? ⟨g, 1 + ch.toNat * 4 + 2, none⟩ = some (.int .i64 0) := by rw [← hW3]; exact cell_set_eq (u := .int .i64 (st ch.toNat).age) _ g2 (by rw [← hW2, cell_set_ne _ (by omega), ← hW, cell_set_ne _ (by omega)]; exact e2)
  generalize hW4 : V3.setCell ⟨g, 1 + ch.toNat * 4 + 3, none⟩ v = V4
  obtain ⟨cs4, g4⟩ : ∃ cs1, V4.heap[g]? = some (.cells cs1 60 (0, 0)) := ⟨_, by rw [← hW4]; exact blk_set g3 _ _⟩
  have b3 : V4.cell? ⟨g, 1 + ch.toNat * 4 + 3, none⟩ = some v := by rw [← hW4]; exact cell_set_eq (u := u) _ g3 (by rw [← hW3, cell_set_ne _ (by omega), ← hW2, cell_set_ne _ (by omega), ← hW, cell_set_ne _ (by omega)]; exact e3)
  have hV : set4o W7 g (1 + ch.toNat * 4) (.bool true) (.int .i64 sq) (.int .i64 0) v = V4 := by unfold set4o; rw [hW, hW2, hW3, hW4]
  have ne4 := fun k hk => set4o_ne W7 g (1 + ch.toNat * 4) k (.bool true) (.int .i64 sq) (.int .i64 0) v hk
  rw [hV] at hO ne4 ⊢
  refine ⟨⟨_, g4⟩, ?_, ?_, h.hF, ?_, h.hok⟩
  · rw [ne4 _ (by omega)]; exact h7.cF
  · intro i hi'
    by_cases hic : i = ch.toNat
    · subst hic
      rw [updR_same]
      refine ⟨v, ?_, ?_, ?_, ?_, ?_⟩
      · rw [← hW4, cell_set_ne _ (by omega), ← hW3, cell_set_ne _ (by omega), ← hW2, cell_set_ne _ (by omega)]; exact b0
      · rw [← hW4, cell_set_ne _ (by omega), ← hW3, cell_set_ne _ (by omega)]; exact b1
      · rw [← hW4, cell_set_ne _ (by omega)]; exact b2
      · exact b3
      · refine Kd.R_lower (base' := 0) (Kd.R_mono (Kd.R_step (ok := fun k => w.heap.size ≤ k) (Kd.R_mono (Kd.R_bound hR) (fun _ hk => hk.2.1)) (fun k hk hl => hO.block k hl (by omega))) (fun k hk => hbig k hk)) (Nat.zero_le _)
    · rw [updR_other _ _ hic]
      obtain ⟨u', f0, f1, f2, f3, hR'⟩ := h7.ch i hi'
      refine ⟨u', ?_, ?_, ?_, ?_, Kd.R_step hR' (fun k hk hl => hO.block k hl (h.hok k hk))⟩
      · rw [ne4 _ (by omega)]; exact f0
      · rw [ne4 _ (by omega)]; exact f1
      · rw [ne4 _ (by omega)]; exact f2
      · rw [ne4 _ (by omega)]; exact f3
  · intro i hi'
    by_cases hic : i = ch.toNat
    · subst hic; rw [updR_same]; dsimp only; omega
    · rw [updR_other _ _ hic]; exact h.hst i hi'
theorem set4o_far {w : World} {b b' o k : Nat} {v : Value} (a0 a1 a2 a3 : Value) (hne : b ≠ b') (h : w.cell? ⟨b', k, none⟩ = some v) : ((((w.setCell ⟨b, o, none⟩ a0).setCell ⟨b, o + 1, none⟩ a1).setCell ⟨b, o + 2, none⟩ a2).setCell ⟨b, o + 3, none⟩ a3).cell? ⟨b', k, none⟩ = some v := by
  rw [World.cell?_setCell_far _ _ _ _ hne, World.cell?_setCell_far _ _ _ _ hne, World.cell?_setCell_far _ _ _ _ hne, World.cell?_setCell_far _ _ _ _ hne]; exact h
set_option maxHeartbeats 16000000 in
set_option maxRecDepth 100000 in
theorem RTake_calls {g : Nat} {F : Int} {ok : Nat → Prop} {st : Nat → LinkV} (w : World) (h : RK w g F ok st) (hbig : ∀ k, w.heap.size ≤ k → ok k) (ch sq : Int) (A : Option Addr) (cap : Nat) (xs : List Int) (hC : Kd.C (Kd.int .u8) w A xs.length xs) (hcap : xs.length ≤ cap) (hx : xs.length ≤ 100) :
    Calls Tryd.prog 16 #[.pointer (some ⟨g, 0, none⟩), .agg #[.int .i64 ch, .int .i64 sq, .slice A xs.length cap]] w fun e w' => e = .returned (.int .i64 (takeRE F st ch sq xs.length)) ∧ RK w' g F ok (takeRS F st ch sq xs) ∧ Only g w w' := by
  have B0 : Aside0 (Below w.heap.size w (w.alloc (.cells #[.int .i64 ch, .int .i64 sq, .slice A xs.length cap] 30))) := balloc ⟨Below.refl _ _⟩ _
  have HX0 := Aside0.mk (heap_new w (.cells #[.int .i64 ch, .int .i64 sq, .slice A xs.length cap] 30))
  have HC := Aside0.mk hC
  have L := Aside0.mk h
  have HBIG := Aside0.mk hbig
  have HCAP := Aside0.mk hcap
  clear hC h hbig hcap
  go_enter Tryd.func16, Tryd.ntmps16
  go_wp2_with fail
  refine (Encode_calls ch sq A cap xs _ (Kd.C_below HC.out B0.out) HCAP.out hx).mono ?_
  rintro e w2 ⟨v2, ys, rfl, hR, hb⟩
  obtain ⟨A2, c2, rfl, -, -⟩ := Kd.R_reads hR
  have B2 := Aside0.mk (below_thenB B0.out hb B0.out.size)
  have HX2 := Aside0.mk (heap_below ⟨hb⟩ HX0.out)
  have L2 := Aside0.mk (L.out.below B2.out)
  clear hR hb
  by_cases ha : argF ch sq xs.length
  · have hE : takeRE F st ch sq xs.length = 1 := by unfold takeRE; rw [if_pos ha]
    have hS : takeRS F st ch sq xs = st := by unfold takeRS; rw [hE, if_neg (by decide)]
    have HE := Aside0.mk hE
    have HS := Aside0.mk hS
    rw [if_pos ha]
    clear ha hE hS
    go_wp2_with fail
    go_ret
    rw [HE.out, HS.out]
    exact ⟨rfl, L2.out, Only.of_below g B2.out⟩
  have hE : takeRE F st ch sq xs.length = if oldR F st ch sq = true then 4 else 0 := by unfold takeRE; rw [if_neg ha]
  have hc : 0 ≤ ch ∧ ch ≤ 15 := by unfold argF at ha; omega
  have hq : 0 ≤ sq ∧ sq ≤ 255 := by unfold argF at ha; omega
  have hx16 : xs.length ≤ 16 := by unfold argF at ha; omega
  rw [if_neg ha]
  clear ha
  have hi : 0 ≤ ch ∧ ch < 16 := by omega
  obtain ⟨u, c0, c1, c2', c3, hR⟩ := L2.out.ch ch.toNat (by omega)
  have hs := L2.out.hst ch.toNat (by omega)
  have hF := L2.out.cF
  have hb0 : isR F st ch = ((st ch.toNat).had && decide ((st ch.toNat).age ≤ F)) := by unfold isR; rw [decide_eq_true hc, Bool.true_and]
  have hOld : oldR F st ch sq = ((st ch.toNat).had && decide ((st ch.toNat).age ≤ F) && (decide ((sq - (st ch.toNat).seq + 256) % 256 < 1) || decide (16 < (sq - (st ch.toNat).seq + 256) % 256))) := by unfold oldR; rw [hb0]
  rw [hOld] at hE
  clear hR c3 hOld hb0
  obtain ⟨sq0, hsq0⟩ : ∃ x, x = (st ch.toNat).seq := ⟨_, rfl⟩
  rw [← hsq0] at c1 hs hE
  generalize (st ch.toNat).had = had at c0 hE
  generalize (st ch.toNat).age = ag at c2' hE
  have hs1 : 0 ≤ sq0 ∧ sq0 ≤ 255 := by omega
  clear hs hsq0
  have HF := Aside0.mk hF
  have HC0 := Aside0.mk c0
  have HC2 := Aside0.mk c2'
  generalize hbb : (had && decide (ag ≤ F)) = b at hE
  have HB := Aside0.mk hbb
  have q0 : World.cell? w2 ⟨w.heap.size, 0, none⟩ = some (.int .i64 ch) := cell_of_heap HX2.out 0
  have q1 : World.cell? w2 ⟨w.heap.size, 1, none⟩ = some (.int .i64 sq) := cell_of_heap HX2.out 1
  have HQ1 := Aside0.mk c1
  clear hbb c0 c2' hF
  generalize hah : (sq - sq0 + 256) % 256 = ah at hE
  have HE := Aside0.mk hE
  clear hE
  have HAH := Aside0.mk hah
  have hah2 : 0 ≤ ah ∧ ah ≤ 255 := by omega
  clear hah
  go_upto_region 4 with fail
  go_cut [7] (fun v W => v = .int .i64 ah ∧ Aside0 (Below w2.heap.size w2 W))
  case first =>
    go_quiet (fail)
    go_wp2_with fail
    go_meet
    case rel => exact ⟨by first | (rw [← HAH.out]; done) | (rw [← HAH.out]; congr 1; omega), ⟨pw_below_drewN (Below.refl _ _) _⟩⟩
  case rest =>
    obtain ⟨rfl, B23⟩ := hcut
    obtain ⟨w3, rfl⟩ : ∃ x : World, x = wc := ⟨_, rfl⟩
    have B3 := Aside0.mk (below_thenB B2.out B23.out B2.out.size)
    have HX3 := Aside0.mk (heap_below B23 HX2.out)
    have q0 : World.cell? w3 ⟨w.heap.size, 0, none⟩ = some (.int .i64 ch) := cell_of_heap HX3.out 0
    have hA := rfresh_calls g ch F ag had w3 (bcellA B23 HF.out) hc.1 hc.2 (bcellA B23 HC0.out) (bcellA B23 HC2.out)
    rw [HB.out] at hA
    have hA' := Aside0.mk hA
    clear hA c1 q1
    go_wp2_with fail
    refine hA'.out.mono ?_
    rintro e w4 ⟨rfl, hb⟩
    have B4 := Aside0.mk (below_thenB B3.out hb B3.out.size)
    have HX4 := Aside0.mk (heap_below ⟨hb⟩ HX3.out)
    have L4 := Aside0.mk (L.out.below B4.out)
    clear hb hA' q0
    have bad : b = true → (decide (ah < 1) || decide (16 < ah)) = true → True := fun _ _ => trivial
    by_cases hold : (b && (decide (ah < 1) || decide (16 < ah))) = true
    · have HE4 : Aside0 (takeRE F st ch sq xs.length = 4 ∧ takeRS F st ch sq xs = st) := by
        have h := HE.out
        rw [hold, if_pos rfl] at h
        exact ⟨h, by unfold takeRS; rw [h, if_neg (by decide)]⟩
      have k : (b = true ∧ decide (ah < 1) = true) ∨ (b = true ∧ decide (ah < 1) = false ∧ decide (16 < ah) = true) := by
        revert hold; cases b <;> cases decide (ah < 1) <;> cases decide (16 < ah) <;> simp
      clear hold bad
      rcases k with ⟨rfl, k1⟩ | ⟨rfl, k1, k2⟩
      all_goals
        go_wp2_with fail
        go_ret
        rw [HE4.out.1, HE4.out.2]
        exact ⟨rfl, L4.out, Only.of_below g B4.out⟩
    · have hold' : (b && (decide (ah < 1) || decide (16 < ah))) = false := by revert hold; cases (b && (decide (ah < 1) || decide (16 < ah))) <;> simp
      have HE0 : Aside0 (takeRE F st ch sq xs.length = 0 ∧ takeRS F st ch sq xs = updR st ch.toNat ⟨true, sq, 0, xs⟩) := by
        have h := HE.out
        rw [hold', if_neg (by decide)] at h
        exact ⟨h, by unfold takeRS; rw [h, if_pos rfl]⟩
      have k : b = false ∨ (b = true ∧ decide (ah < 1) = false ∧ decide (16 < ah) = false) := by
        revert hold'; cases b <;> cases decide (ah < 1) <;> cases decide (16 < ah) <;> simp
      clear hold hold' bad
      have q0 : World.cell? w4 ⟨w.heap.size, 0, none⟩ = some (.int .i64 ch) := cell_of_heap HX4.out 0
      have q1 : World.cell? w4 ⟨w.heap.size, 1, none⟩ = some (.int .i64 sq) := cell_of_heap HX4.out 1
      have q2 : World.cell? w4 ⟨w.heap.size, 2, none⟩ = some (.slice A xs.length cap) := cell_of_heap HX4.out 2
      have hne : w.heap.size ≠ g := Nat.ne_of_gt L.out.lt
      have key : True := trivial
      rcases k with rfl | ⟨rfl, k1, k2⟩
      · go_upto_region 8 with fail
        have HSK : Aside0 (∀ W, Below w4.heap.size w4 W → (fun W => W.cell? ⟨w.heap.size, 0, none⟩ = some (.int .i64 ch) ∧ W.cell? ⟨w.heap.size, 1, none⟩ = some (.int .i64 sq) ∧ W.cell? ⟨w.heap.size, 2, none⟩ = some (.slice A xs.length cap)) W) := ⟨fun W hW => ⟨pw_cell_below hW q0, pw_cell_below hW q1, pw_cell_below hW q2⟩⟩
        have info5 := info5
        refine wp_region_held_drew (S := (fun W => W.cell? ⟨w.heap.size, 0, none⟩ = some (.int .i64 ch) ∧ W.cell? ⟨w.heap.size, 1, none⟩ = some (.int .i64 sq) ∧ W.cell? ⟨w.heap.size, 2, none⟩ = some (.slice A xs.length cap))) (by kernel_rfl) ?_ (fun hHeld => ?_)
        · exact HSK.out _ (below_drew (Below.refl _ _))
        refine wpAnyH_take (i := 0) (oi := { dst := some 42, op := Go.Op.move (Go.Operand.tmp 0), type := 26, pos := "ref.go:32", after := #[], guard := none }) (v := ?vz0) rfl (by kernel_rfl) (by kernel_rfl) (by kernel_rfl) (fun _ _ _ h => h) (Or.inl ⟨by rfl, ?yz0⟩) (by assumption) ?rz0
        case yz0 => ((intro w hSw; (try dsimp only at hSw); go_simp) <;> with_reducible rfl)
        try simp only [Act.put, List.setIfInBounds_toArray, List.set_cons_zero, List.set_cons_succ]
        refine wpAnyH_take (i := 1) (oi := { dst := some 43, op := Go.Op.fieldAddr 30 (Go.Operand.tmp 3) 0, type := 0, pos := "ref.go:32", after := #[], guard := none }) (v := ?vz1) rfl (by kernel_rfl) (by kernel_rfl) (by kernel_rfl) (fun _ _ _ h => h) (Or.inl ⟨by rfl, ?yz1⟩) (by assumption) ?rz1
        case yz1 => ((intro w hSw; (try dsimp only at hSw); go_simp) <;> with_reducible rfl)
        try simp only [Act.put, List.setIfInBounds_toArray, List.set_cons_zero, List.set_cons_succ]
        refine wpAnyH_take (i := 2) (oi := { dst := some 44, op := Go.Op.load 3 (Go.Operand.tmp 43), type := 3, pos := "ref.go:32", after := #[{ on := 1, ground := Go.Ground.data }], guard := none }) (v := ?vz2) rfl (by kernel_rfl) (by kernel_rfl) (by kernel_rfl) (fun _ _ _ h => h) (Or.inl ⟨by rfl, ?yz2⟩) (by assumption) ?rz2
        case yz2 => ((intro w hSw; (try dsimp only at hSw); go_simp) <;> with_reducible rfl)
        try simp only [Act.put, List.setIfInBounds_toArray, List.set_cons_zero, List.set_cons_succ]
        refine wpAnyH_take (i := 3) (oi := { dst := some 45, op := Go.Op.fieldAddr 30 (Go.Operand.tmp 3) 1, type := 0, pos := "ref.go:32", after := #[], guard := none }) (v := ?vz3) rfl (by kernel_rfl) (by kernel_rfl) (by kernel_rfl) (fun _ _ _ h => h) (Or.inl ⟨by rfl, ?yz3⟩) (by assumption) ?rz3
        case yz3 => ((intro w hSw; (try dsimp only at hSw); go_simp) <;> with_reducible rfl)
        try simp only [Act.put, List.setIfInBounds_toArray, List.set_cons_zero, List.set_cons_succ]
        refine wpAnyH_take (i := 4) (oi := { dst := some 46, op := Go.Op.load 3 (Go.Operand.tmp 45), type := 3, pos := "ref.go:32", after := #[{ on := 3, ground := Go.Ground.data }], guard := none }) (v := ?vz4) rfl (by kernel_rfl) (by kernel_rfl) (by kernel_rfl) (fun _ _ _ h => h) (Or.inl ⟨by rfl, ?yz4⟩) (by assumption) ?rz4
        case yz4 => ((intro w hSw; (try dsimp only at hSw); go_simp) <;> with_reducible rfl)
        try simp only [Act.put, List.setIfInBounds_toArray, List.set_cons_zero, List.set_cons_succ]
        refine wpAnyH_take (i := 6) (oi := { dst := some 48, op := Go.Op.fieldAddr 30 (Go.Operand.tmp 3) 2, type := 0, pos := "ref.go:32", after := #[], guard := none }) (v := ?vz6) rfl (by kernel_rfl) (by kernel_rfl) (by kernel_rfl) (fun _ _ _ h => h) (Or.inl ⟨by rfl, ?yz6⟩) (by assumption) ?rz6
        case yz6 => ((intro w hSw; (try dsimp only at hSw); go_simp) <;> with_reducible rfl)
        try simp only [Act.put, List.setIfInBounds_toArray, List.set_cons_zero, List.set_cons_succ]
        refine wpAnyH_take (i := 7) (oi := { dst := some 49, op := Go.Op.load 28 (Go.Operand.tmp 48), type := 28, pos := "ref.go:32", after := #[{ on := 6, ground := Go.Ground.data }], guard := none }) (v := ?vz7) rfl (by kernel_rfl) (by kernel_rfl) (by kernel_rfl) (fun _ _ _ h => h) (Or.inl ⟨by rfl, ?yz7⟩) (by assumption) ?rz7
        case yz7 => ((intro w hSw; (try dsimp only at hSw); go_simp) <;> with_reducible rfl)
        try simp only [Act.put, List.setIfInBounds_toArray, List.set_cons_zero, List.set_cons_succ]
        refine wpAnyH_take (i := 10) (oi := { dst := some 52, op := Go.Op.nilCheck (Go.Operand.tmp 42), type := 0, pos := "ref.go:32", after := #[{ on := 0, ground := Go.Ground.data }], guard := none }) (v := ?vz10) rfl (by kernel_rfl) (by kernel_rfl) (by kernel_rfl) (fun _ _ _ h => h) (Or.inl ⟨by rfl, ?yz10⟩) (by assumption) ?rz10
        case yz10 => ((intro w hSw; (try dsimp only at hSw); go_simp) <;> with_reducible rfl)
        try simp only [Act.put, List.setIfInBounds_toArray, List.set_cons_zero, List.set_cons_succ]
        refine wpAnyH_take (i := 11) (oi := { dst := some 53, op := Go.Op.fieldAddr 60 (Go.Operand.tmp 52) 1, type := 0, pos := "ref.go:32", after := #[{ on := 10, ground := Go.Ground.data }], guard := none }) (v := ?vz11) rfl (by kernel_rfl) (by kernel_rfl) (by kernel_rfl) (fun _ _ _ h => h) (Or.inl ⟨by rfl, ?yz11⟩) (by assumption) ?rz11
        case yz11 => ((intro w hSw; (try dsimp only at hSw); go_simp) <;> with_reducible rfl)
        try simp only [Act.put, List.setIfInBounds_toArray, List.set_cons_zero, List.set_cons_succ]
        refine wpAnyH_ready (rs := [5]) (by kernel_rfl) (by simp) ?_
        refine AllReadyH.cons (o := { dst := some 47, op := Go.Op.buildSlice 28 0 #[], type := 28, pos := "ref.go:32", after := #[], guard := none }) rfl (fun K hK => ?kz5) AllReadyH.nil
        go_simp
        refine hK.out _ _ ?_ (fun hHeld => ?_)
        · exact HSK.out _ (below_drew (below_alloc (Below.refl _ _) _))
        clear hK K
        try simp only [Act.put, List.setIfInBounds_toArray, List.set_cons_zero, List.set_cons_succ]
        refine wpAnyH_ready (rs := [8]) (by kernel_rfl) (by simp) ?_
        refine AllReadyH.cons (o := { dst := some 50, op := Go.Op.call { callee := Go.Callee.builtin Go.Builtin.append, args := #[Go.Operand.tmp 47, Go.Operand.tmp 49], argTypes := #[28, 28] }, type := 28, pos := "ref.go:32", after := #[{ on := 5, ground := Go.Ground.data }, { on := 7, ground := Go.Ground.data }], guard := none }) rfl (fun K hK => ?kz8) AllReadyH.nil
        refine Kd.R_append_rows_step (Kd.int .u8) (w0 := w4) w4.heap.size rfl (.tmp 47) (.tmp 49) 28 5 (.int .u8 0) 1 rfl Tryd.underlying28 info5 rfl (by decide) (by omega) (.slice (some ⟨w4.heap.size, 0, none⟩) 0 0) [] xs A xs.length cap (fun _ => True) (fun _ => False) rfl rfl ?aO ?aR (fun _ _ h => h) (fun _ h => h.elim) (fun _ _ => trivial) ?aB ?aS ?aL ?_
        case aO => exact Kd.R_drew (R_empty w4)
        case aR => exact Kd.C_drew (Kd.C_alloc (Kd.C_below HC.out B4.out) _)
        case aB => exact below_drew (below_alloc (Below.refl _ _) _)
        case aS => simp
        case aL => simp; omega
        intro v w5 ho hb5 hg hat
        obtain ⟨A5, c5, rfl, -, -⟩ := Kd.R_reads ho
        have R5 : Aside0 (Kd.R (Kd.int .u8) 5 w5 w4.heap.size (fun _ => True) (.slice A5 xs.length c5) xs) := ⟨by simpa using ho⟩
        have B45 := Aside0.mk hb5
        have B5 := Aside0.mk (below_thenB B4.out hb5 B4.out.size)
        have L5 := Aside0.mk (L.out.below B5.out)
        clear hg hat ho hb5
        refine hK.out _ _ ?_ (fun hHeld => ?_)
        · exact HSK.out _ B45.out
        clear hK K
        try simp only [Act.put, List.setIfInBounds_toArray, List.set_cons_zero, List.set_cons_succ]
        refine wpAnyH_take (i := 9) (oi := { dst := some 51, op := Go.Op.build 43 #[(0, Go.Operand.const (Go.Value.bool true)), (1, Go.Operand.tmp 46), (3, Go.Operand.tmp 50)], type := 43, pos := "ref.go:32", after := #[{ on := 4, ground := Go.Ground.data }, { on := 8, ground := Go.Ground.data }], guard := none }) (v := ?vz9) rfl (by kernel_rfl) (by kernel_rfl) (by kernel_rfl) (fun _ _ _ h => h) (Or.inl ⟨by rfl, ?yz9⟩) (by assumption) ?rz9
        case yz9 => ((intro w hSw; (try dsimp only at hSw); go_simp) <;> with_reducible rfl)
        try simp only [Act.put, List.setIfInBounds_toArray, List.set_cons_zero, List.set_cons_succ]
        refine wpAnyH_take (i := 12) (oi := { dst := some 54, op := Go.Op.indexAddr 58 (Go.Operand.tmp 53) (Go.Operand.tmp 44), type := 0, pos := "ref.go:32", after := #[{ on := 11, ground := Go.Ground.data }, { on := 2, ground := Go.Ground.data }, { on := 0, ground := Go.Ground.phase }, { on := 1, ground := Go.Ground.phase }, { on := 2, ground := Go.Ground.phase }, { on := 3, ground := Go.Ground.phase }, { on := 4, ground := Go.Ground.phase }, { on := 5, ground := Go.Ground.phase }, { on := 6, ground := Go.Ground.phase }, { on := 7, ground := Go.Ground.phase }, { on := 8, ground := Go.Ground.phase }, { on := 9, ground := Go.Ground.phase }], guard := none }) (v := ?vz12) rfl (by kernel_rfl) (by kernel_rfl) (by kernel_rfl) (fun _ _ _ h => h) (Or.inl ⟨by rfl, ?yz12⟩) (by assumption) ?rz12
        case yz12 => ((intro w hSw; (try dsimp only at hSw); go_simp) <;> with_reducible rfl)
        try simp only [Act.put, List.setIfInBounds_toArray, List.set_cons_zero, List.set_cons_succ]
        refine wpAnyH_ready (rs := [13]) (by kernel_rfl) (by simp) ?_
        refine AllReadyH.cons (o := { dst := none, op := Go.Op.store 43 (Go.Operand.tmp 54) (Go.Operand.tmp 51), type := 0, pos := "ref.go:32", after := #[{ on := 12, ground := Go.Ground.data }, { on := 9, ground := Go.Ground.data }, { on := 8, ground := Go.Ground.chain }, { on := 0, ground := Go.Ground.phase }, { on := 1, ground := Go.Ground.phase }, { on := 2, ground := Go.Ground.phase }, { on := 3, ground := Go.Ground.phase }, { on := 4, ground := Go.Ground.phase }, { on := 5, ground := Go.Ground.phase }, { on := 6, ground := Go.Ground.phase }, { on := 7, ground := Go.Ground.phase }, { on := 8, ground := Go.Ground.phase }, { on := 9, ground := Go.Ground.phase }], guard := none }) rfl (fun K hK => ?kz13) AllReadyH.nil
        obtain ⟨u5, e0, e1, e2, e3, -⟩ := L5.out.ch ch.toNat (by omega)
        obtain ⟨cs5, hblk⟩ := L5.out.blk
        have z0 := frozen_of_heap hblk (1 + ch.toNat * 4)
        have z1 := frozen_of_heap hblk (1 + ch.toNat * 4 + 1)
        have z2 := frozen_of_heap hblk (1 + ch.toNat * 4 + 2)
        have z3 := frozen_of_heap hblk (1 + ch.toNat * 4 + 3)
        clear hblk
        go_simp
        refine hK.out _ _ ?_ (fun hHeld => ?_)
        · exact ⟨set4o_far _ _ _ _ (Ne.symm hne) (HSK.out _ B45.out).1, set4o_far _ _ _ _ (Ne.symm hne) (HSK.out _ B45.out).2.1, set4o_far _ _ _ _ (Ne.symm hne) (HSK.out _ B45.out).2.2⟩
        clear hK K
        try simp only [Act.put, List.setIfInBounds_toArray, List.set_cons_zero, List.set_cons_succ]
        refine wpAnyH_done (by kernel_rfl) ?_ _
        go_wp2_with fail
        go_ret
        have r := RK_set L.out HBIG.out ch sq hc hq hx16 B5.out (Kd.R_lower R5.out B4.out.size)
        rw [HE0.out.1, HE0.out.2]
        exact ⟨rfl, r.1, r.2⟩
      · go_upto_region 8 with fail
        have HSK : Aside0 (∀ W, Below w4.heap.size w4 W → (fun W => W.cell? ⟨w.heap.size, 0, none⟩ = some (.int .i64 ch) ∧ W.cell? ⟨w.heap.size, 1, none⟩ = some (.int .i64 sq) ∧ W.cell? ⟨w.heap.size, 2, none⟩ = some (.slice A xs.length cap)) W) := ⟨fun W hW => ⟨pw_cell_below hW q0, pw_cell_below hW q1, pw_cell_below hW q2⟩⟩
        have info5 := info5
        refine wp_region_held_drew (S := (fun W => W.cell? ⟨w.heap.size, 0, none⟩ = some (.int .i64 ch) ∧ W.cell? ⟨w.heap.size, 1, none⟩ = some (.int .i64 sq) ∧ W.cell? ⟨w.heap.size, 2, none⟩ = some (.slice A xs.length cap))) (by kernel_rfl) ?_ (fun hHeld => ?_)
        · exact HSK.out _ (below_drew (Below.refl _ _))
        refine wpAnyH_take (i := 0) (oi := { dst := some 42, op := Go.Op.move (Go.Operand.tmp 0), type := 26, pos := "ref.go:32", after := #[], guard := none }) (v := ?vy0) rfl (by kernel_rfl) (by kernel_rfl) (by kernel_rfl) (fun _ _ _ h => h) (Or.inl ⟨by rfl, ?yy0⟩) (by assumption) ?ry0
        case yy0 => ((intro w hSw; (try dsimp only at hSw); go_simp) <;> with_reducible rfl)
        try simp only [Act.put, List.setIfInBounds_toArray, List.set_cons_zero, List.set_cons_succ]
        refine wpAnyH_take (i := 1) (oi := { dst := some 43, op := Go.Op.fieldAddr 30 (Go.Operand.tmp 3) 0, type := 0, pos := "ref.go:32", after := #[], guard := none }) (v := ?vy1) rfl (by kernel_rfl) (by kernel_rfl) (by kernel_rfl) (fun _ _ _ h => h) (Or.inl ⟨by rfl, ?yy1⟩) (by assumption) ?ry1
        case yy1 => ((intro w hSw; (try dsimp only at hSw); go_simp) <;> with_reducible rfl)
        try simp only [Act.put, List.setIfInBounds_toArray, List.set_cons_zero, List.set_cons_succ]
        refine wpAnyH_take (i := 2) (oi := { dst := some 44, op := Go.Op.load 3 (Go.Operand.tmp 43), type := 3, pos := "ref.go:32", after := #[{ on := 1, ground := Go.Ground.data }], guard := none }) (v := ?vy2) rfl (by kernel_rfl) (by kernel_rfl) (by kernel_rfl) (fun _ _ _ h => h) (Or.inl ⟨by rfl, ?yy2⟩) (by assumption) ?ry2
        case yy2 => ((intro w hSw; (try dsimp only at hSw); go_simp) <;> with_reducible rfl)
        try simp only [Act.put, List.setIfInBounds_toArray, List.set_cons_zero, List.set_cons_succ]
        refine wpAnyH_take (i := 3) (oi := { dst := some 45, op := Go.Op.fieldAddr 30 (Go.Operand.tmp 3) 1, type := 0, pos := "ref.go:32", after := #[], guard := none }) (v := ?vy3) rfl (by kernel_rfl) (by kernel_rfl) (by kernel_rfl) (fun _ _ _ h => h) (Or.inl ⟨by rfl, ?yy3⟩) (by assumption) ?ry3
        case yy3 => ((intro w hSw; (try dsimp only at hSw); go_simp) <;> with_reducible rfl)
        try simp only [Act.put, List.setIfInBounds_toArray, List.set_cons_zero, List.set_cons_succ]
        refine wpAnyH_take (i := 4) (oi := { dst := some 46, op := Go.Op.load 3 (Go.Operand.tmp 45), type := 3, pos := "ref.go:32", after := #[{ on := 3, ground := Go.Ground.data }], guard := none }) (v := ?vy4) rfl (by kernel_rfl) (by kernel_rfl) (by kernel_rfl) (fun _ _ _ h => h) (Or.inl ⟨by rfl, ?yy4⟩) (by assumption) ?ry4
        case yy4 => ((intro w hSw; (try dsimp only at hSw); go_simp) <;> with_reducible rfl)
        try simp only [Act.put, List.setIfInBounds_toArray, List.set_cons_zero, List.set_cons_succ]
        refine wpAnyH_take (i := 6) (oi := { dst := some 48, op := Go.Op.fieldAddr 30 (Go.Operand.tmp 3) 2, type := 0, pos := "ref.go:32", after := #[], guard := none }) (v := ?vy6) rfl (by kernel_rfl) (by kernel_rfl) (by kernel_rfl) (fun _ _ _ h => h) (Or.inl ⟨by rfl, ?yy6⟩) (by assumption) ?ry6
        case yy6 => ((intro w hSw; (try dsimp only at hSw); go_simp) <;> with_reducible rfl)
        try simp only [Act.put, List.setIfInBounds_toArray, List.set_cons_zero, List.set_cons_succ]
        refine wpAnyH_take (i := 7) (oi := { dst := some 49, op := Go.Op.load 28 (Go.Operand.tmp 48), type := 28, pos := "ref.go:32", after := #[{ on := 6, ground := Go.Ground.data }], guard := none }) (v := ?vy7) rfl (by kernel_rfl) (by kernel_rfl) (by kernel_rfl) (fun _ _ _ h => h) (Or.inl ⟨by rfl, ?yy7⟩) (by assumption) ?ry7
        case yy7 => ((intro w hSw; (try dsimp only at hSw); go_simp) <;> with_reducible rfl)
        try simp only [Act.put, List.setIfInBounds_toArray, List.set_cons_zero, List.set_cons_succ]
        refine wpAnyH_take (i := 10) (oi := { dst := some 52, op := Go.Op.nilCheck (Go.Operand.tmp 42), type := 0, pos := "ref.go:32", after := #[{ on := 0, ground := Go.Ground.data }], guard := none }) (v := ?vy10) rfl (by kernel_rfl) (by kernel_rfl) (by kernel_rfl) (fun _ _ _ h => h) (Or.inl ⟨by rfl, ?yy10⟩) (by assumption) ?ry10
        case yy10 => ((intro w hSw; (try dsimp only at hSw); go_simp) <;> with_reducible rfl)
        try simp only [Act.put, List.setIfInBounds_toArray, List.set_cons_zero, List.set_cons_succ]
        refine wpAnyH_take (i := 11) (oi := { dst := some 53, op := Go.Op.fieldAddr 60 (Go.Operand.tmp 52) 1, type := 0, pos := "ref.go:32", after := #[{ on := 10, ground := Go.Ground.data }], guard := none }) (v := ?vy11) rfl (by kernel_rfl) (by kernel_rfl) (by kernel_rfl) (fun _ _ _ h => h) (Or.inl ⟨by rfl, ?yy11⟩) (by assumption) ?ry11
        case yy11 => ((intro w hSw; (try dsimp only at hSw); go_simp) <;> with_reducible rfl)
        try simp only [Act.put, List.setIfInBounds_toArray, List.set_cons_zero, List.set_cons_succ]
        refine wpAnyH_ready (rs := [5]) (by kernel_rfl) (by simp) ?_
        refine AllReadyH.cons (o := { dst := some 47, op := Go.Op.buildSlice 28 0 #[], type := 28, pos := "ref.go:32", after := #[], guard := none }) rfl (fun K hK => ?ky5) AllReadyH.nil
        go_simp
        refine hK.out _ _ ?_ (fun hHeld => ?_)
        · exact HSK.out _ (below_drew (below_alloc (Below.refl _ _) _))
        clear hK K
        try simp only [Act.put, List.setIfInBounds_toArray, List.set_cons_zero, List.set_cons_succ]
        refine wpAnyH_ready (rs := [8]) (by kernel_rfl) (by simp) ?_
        refine AllReadyH.cons (o := { dst := some 50, op := Go.Op.call { callee := Go.Callee.builtin Go.Builtin.append, args := #[Go.Operand.tmp 47, Go.Operand.tmp 49], argTypes := #[28, 28] }, type := 28, pos := "ref.go:32", after := #[{ on := 5, ground := Go.Ground.data }, { on := 7, ground := Go.Ground.data }], guard := none }) rfl (fun K hK => ?ky8) AllReadyH.nil
        refine Kd.R_append_rows_step (Kd.int .u8) (w0 := w4) w4.heap.size rfl (.tmp 47) (.tmp 49) 28 5 (.int .u8 0) 1 rfl Tryd.underlying28 info5 rfl (by decide) (by omega) (.slice (some ⟨w4.heap.size, 0, none⟩) 0 0) [] xs A xs.length cap (fun _ => True) (fun _ => False) rfl rfl ?aO ?aR (fun _ _ h => h) (fun _ h => h.elim) (fun _ _ => trivial) ?aB ?aS ?aL ?_
        case aO => exact Kd.R_drew (R_empty w4)
        case aR => exact Kd.C_drew (Kd.C_alloc (Kd.C_below HC.out B4.out) _)
        case aB => exact below_drew (below_alloc (Below.refl _ _) _)
        case aS => simp
        case aL => simp; omega
        intro v w5 ho hb5 hg hat
        obtain ⟨A5, c5, rfl, -, -⟩ := Kd.R_reads ho
        have R5 : Aside0 (Kd.R (Kd.int .u8) 5 w5 w4.heap.size (fun _ => True) (.slice A5 xs.length c5) xs) := ⟨by simpa using ho⟩
        have B45 := Aside0.mk hb5
        have B5 := Aside0.mk (below_thenB B4.out hb5 B4.out.size)
        have L5 := Aside0.mk (L.out.below B5.out)
        clear hg hat ho hb5
        refine hK.out _ _ ?_ (fun hHeld => ?_)
        · exact HSK.out _ B45.out
        clear hK K
        try simp only [Act.put, List.setIfInBounds_toArray, List.set_cons_zero, List.set_cons_succ]
        refine wpAnyH_take (i := 9) (oi := { dst := some 51, op := Go.Op.build 43 #[(0, Go.Operand.const (Go.Value.bool true)), (1, Go.Operand.tmp 46), (3, Go.Operand.tmp 50)], type := 43, pos := "ref.go:32", after := #[{ on := 4, ground := Go.Ground.data }, { on := 8, ground := Go.Ground.data }], guard := none }) (v := ?vy9) rfl (by kernel_rfl) (by kernel_rfl) (by kernel_rfl) (fun _ _ _ h => h) (Or.inl ⟨by rfl, ?yy9⟩) (by assumption) ?ry9
        case yy9 => ((intro w hSw; (try dsimp only at hSw); go_simp) <;> with_reducible rfl)
        try simp only [Act.put, List.setIfInBounds_toArray, List.set_cons_zero, List.set_cons_succ]
        refine wpAnyH_take (i := 12) (oi := { dst := some 54, op := Go.Op.indexAddr 58 (Go.Operand.tmp 53) (Go.Operand.tmp 44), type := 0, pos := "ref.go:32", after := #[{ on := 11, ground := Go.Ground.data }, { on := 2, ground := Go.Ground.data }, { on := 0, ground := Go.Ground.phase }, { on := 1, ground := Go.Ground.phase }, { on := 2, ground := Go.Ground.phase }, { on := 3, ground := Go.Ground.phase }, { on := 4, ground := Go.Ground.phase }, { on := 5, ground := Go.Ground.phase }, { on := 6, ground := Go.Ground.phase }, { on := 7, ground := Go.Ground.phase }, { on := 8, ground := Go.Ground.phase }, { on := 9, ground := Go.Ground.phase }], guard := none }) (v := ?vy12) rfl (by kernel_rfl) (by kernel_rfl) (by kernel_rfl) (fun _ _ _ h => h) (Or.inl ⟨by rfl, ?yy12⟩) (by assumption) ?ry12
        case yy12 => ((intro w hSw; (try dsimp only at hSw); go_simp) <;> with_reducible rfl)
        try simp only [Act.put, List.setIfInBounds_toArray, List.set_cons_zero, List.set_cons_succ]
        refine wpAnyH_ready (rs := [13]) (by kernel_rfl) (by simp) ?_
        refine AllReadyH.cons (o := { dst := none, op := Go.Op.store 43 (Go.Operand.tmp 54) (Go.Operand.tmp 51), type := 0, pos := "ref.go:32", after := #[{ on := 12, ground := Go.Ground.data }, { on := 9, ground := Go.Ground.data }, { on := 8, ground := Go.Ground.chain }, { on := 0, ground := Go.Ground.phase }, { on := 1, ground := Go.Ground.phase }, { on := 2, ground := Go.Ground.phase }, { on := 3, ground := Go.Ground.phase }, { on := 4, ground := Go.Ground.phase }, { on := 5, ground := Go.Ground.phase }, { on := 6, ground := Go.Ground.phase }, { on := 7, ground := Go.Ground.phase }, { on := 8, ground := Go.Ground.phase }, { on := 9, ground := Go.Ground.phase }], guard := none }) rfl (fun K hK => ?ky13) AllReadyH.nil
        obtain ⟨u5, e0, e1, e2, e3, -⟩ := L5.out.ch ch.toNat (by omega)
        obtain ⟨cs5, hblk⟩ := L5.out.blk
        have z0 := frozen_of_heap hblk (1 + ch.toNat * 4)
        have z1 := frozen_of_heap hblk (1 + ch.toNat * 4 + 1)
        have z2 := frozen_of_heap hblk (1 + ch.toNat * 4 + 2)
        have z3 := frozen_of_heap hblk (1 + ch.toNat * 4 + 3)
        clear hblk
        go_simp
        refine hK.out _ _ ?_ (fun hHeld => ?_)
        · exact ⟨set4o_far _ _ _ _ (Ne.symm hne) (HSK.out _ B45.out).1, set4o_far _ _ _ _ (Ne.symm hne) (HSK.out _ B45.out).2.1, set4o_far _ _ _ _ (Ne.symm hne) (HSK.out _ B45.out).2.2⟩
        clear hK K
        try simp only [Act.put, List.setIfInBounds_toArray, List.set_cons_zero, List.set_cons_succ]
        refine wpAnyH_done (by kernel_rfl) ?_ _
        go_wp2_with fail
        go_ret
        have r := RK_set L.out HBIG.out ch sq hc hq hx16 B5.out (Kd.R_lower R5.out B4.out.size)
        rw [HE0.out.1, HE0.out.2]
        exact ⟨rfl, r.1, r.2⟩

end Go.Proofs.YtcikcehphpbfhaaDoor.PE

