/- link: Take of a right telegram. Printed by gen_take.py. -/
import Derived.Test.YtcikcehphpbfhaaDoorHLink3
namespace Go.Proofs.YtcikcehphpbfhaaDoor.PE
open Go.RowKit Go.Extern.Stop Go.Stop Go.Extern Go.Proofs.YtcikcehphpbfhaaDoorW.PrintWords Go.Proofs.YtcikcehphpbfhaaDoorW.PrintLast Go.Proofs.YtcikcehphpbfhaaDoorW.PrintMore
set_option linter.unusedVariables false
set_option linter.unusedSimpArgs false
def set5 (w : World) (b o : Nat) (a0 a1 a2 a3 a4 : Value) : World := ((((w.setCell ⟨b, o, none⟩ a0).setCell ⟨b, o + 1, none⟩ a1).setCell ⟨b, o + 2, none⟩ a2).setCell ⟨b, o + 3, none⟩ a3).setCell ⟨b, o + 4, none⟩ a4
theorem set5_far {w : World} {b b' o k : Nat} {v : Value} (a0 a1 a2 a3 a4 : Value) (hne : b ≠ b') (h : w.cell? ⟨b', k, none⟩ = some v) : (((((w.setCell ⟨b, o, none⟩ a0).setCell ⟨b, o + 1, none⟩ a1).setCell ⟨b, o + 2, none⟩ a2).setCell ⟨b, o + 3, none⟩ a3).setCell ⟨b, o + 4, none⟩ a4).drew.cell? ⟨b', k, none⟩ = some v := by
  rw [World.cell?_drew]
  rw [World.cell?_setCell_far _ _ _ _ hne, World.cell?_setCell_far _ _ _ _ hne, World.cell?_setCell_far _ _ _ _ hne, World.cell?_setCell_far _ _ _ _ hne, World.cell?_setCell_far _ _ _ _ hne]; exact h
theorem set5_low {w : World} {b m : Nat} {v : Value} (a0 a1 a2 a3 a4 : Value) (h : w.cell? ⟨b, 1, none⟩ = some v) : (((((w.setCell ⟨b, 2 + m, none⟩ a0).setCell ⟨b, 2 + m + 1, none⟩ a1).setCell ⟨b, 2 + m + 2, none⟩ a2).setCell ⟨b, 2 + m + 3, none⟩ a3).setCell ⟨b, 2 + m + 4, none⟩ a4).drew.cell? ⟨b, 1, none⟩ = some v := by
  rw [World.cell?_drew]
  rw [World.cell?_setCell_other _ _ _ _ (by simp), World.cell?_setCell_other _ _ _ _ (by simp), World.cell?_setCell_other _ _ _ _ (by simp), World.cell?_setCell_other _ _ _ _ (by simp), World.cell?_setCell_other _ _ _ _ (by simp)]; exact h
set_option maxHeartbeats 16000000 in
set_option maxRecDepth 100000 in
theorem take_oldB (g : Nat) (ch sq : Int) (A : Option Addr) (n cap : Nat) (F now c sq0 a : Int) (A0 : Option Addr) (n0 cap0 : Nat) (ah : Int) (w : World) (hah : (sq - sq0 + 256) % 256 = ah)
    (h0 : 0 ≤ ch) (h1 : ch ≤ 15) (h2 : 0 ≤ sq) (h3 : sq ≤ 255) (hn : n ≤ 16) (h4 : 0 ≤ sq0) (h5 : sq0 ≤ 255)
    (hF : w.cell? ⟨g, 0, none⟩ = some (.int .i64 F)) (hnow : w.cell? ⟨g, 1, none⟩ = some (.int .i64 now))
    (h : 0 ≤ a ∧ a ≤ now ∧ now ≤ 1000000 ∧ 0 ≤ F ∧ F ≤ 6000)
    (c0 : w.cell? ⟨g, 2 + ch.toNat * 5, none⟩ = some (.int .i64 c)) (c1 : w.cell? ⟨g, 2 + ch.toNat * 5 + 1, none⟩ = some (.int .i64 sq0))
    (c2 : w.cell? ⟨g, 2 + ch.toNat * 5 + 2, none⟩ = some (.slice A0 n0 cap0)) (c3 : w.cell? ⟨g, 2 + ch.toNat * 5 + 3, none⟩ = some (.int .i64 a)) (c4 : w.cell? ⟨g, 2 + ch.toNat * 5 + 4, none⟩ = some (.bool true))
    (hfr : decide (min (now - a) (F + 1) ≤ F) = true) (hz : (ah == 0) = true)
    : Calls Tryd.prog 15 #[.pointer (some ⟨g, 0, none⟩), .agg #[.int .i64 ch, .int .i64 sq, .slice A n cap]] w fun e w' => ∃ v, e = .returned v ∧ ErrP w' 4 [sLink] v ∧ Below w.heap.size w w' := by
  have B : Aside0 (Below w.heap.size w (w.alloc (.cells #[.int .i64 ch, .int .i64 sq, .slice A n cap] 30))) := balloc ⟨Below.refl _ _⟩ _
  have HG := heap_new w (.cells #[.int .i64 ch, .int .i64 sq, .slice A n cap] 30)
  have d0 : decide (ch < 0) = false := decide_eq_false (by omega)
  have d1 : decide (15 < ch) = false := decide_eq_false (by omega)
  have d2 : decide (sq < 0) = false := decide_eq_false (by omega)
  have d3 : decide (256 ≤ sq) = false := decide_eq_false (by omega)
  have d4 : decide (16 < (n : Int)) = false := decide_eq_false (by omega)
  have hi : 0 ≤ ch ∧ ch < 16 := by omega
  replace hF := bcellA B hF
  replace hnow := bcellA B hnow
  replace c0 := bcellA B c0
  replace c1 := bcellA B c1
  replace c2 := bcellA B c2
  replace c3 := bcellA B c3
  replace c4 := bcellA B c4
  have E := Aside0.mk h
  have HAH := Aside0.mk hah
  clear h hah
  go_enter Tryd.func15, Tryd.ntmps15
  go_upto_region 1 with fail
  obtain ⟨W1, hW⟩ : ∃ W1, W1 = (w.alloc (.cells #[.int .i64 ch, .int .i64 sq, .slice A n cap] 30)) := ⟨_, rfl⟩
  rw [← hW] at HG B hF hnow c0 c1 c2 c3 c4 ⊢
  clear hW
  have q0 : World.cell? W1 ⟨w.heap.size, 0, none⟩ = some (.int .i64 ch) := cell_of_heap HG 0
  have q1 : World.cell? W1 ⟨w.heap.size, 1, none⟩ = some (.int .i64 sq) := cell_of_heap HG 1
  have q2 : World.cell? W1 ⟨w.heap.size, 2, none⟩ = some (.slice A n cap) := cell_of_heap HG 2
  have HG1 := Aside0.mk HG
  clear HG
  go_upto_region 3 with fail
  go_quiet (fail)
  obtain ⟨W2, hW⟩ : ∃ W2, W2 = W1.drewN nq := ⟨_, rfl⟩
  rw [← hW]
  have B2 : Aside0 (Below W1.heap.size W1 W2) := by subst hW; exact ⟨pw_below_drewN (Below.refl _ _) _⟩
  clear hW
  replace hF := bcellA B2 hF
  replace hnow := bcellA B2 hnow
  replace c0 := bcellA B2 c0
  replace c1 := bcellA B2 c1
  replace c2 := bcellA B2 c2
  replace c3 := bcellA B2 c3
  replace c4 := bcellA B2 c4
  replace q0 := bcellA B2 q0
  replace q1 := bcellA B2 q1
  replace q2 := bcellA B2 q2
  go_upto_region 4 with fail
  go_cut [6] (fun v W => v = .int .i64 ah ∧ Aside0 (Below W2.heap.size W2 W))
  case first =>
    go_quiet (fail)
    go_wp2_with fail
    go_meet
    case rel => exact ⟨by first | (rw [← HAH.out]; done) | (rw [← HAH.out]; congr 1; omega), ⟨pw_below_drewN (Below.refl _ _) _⟩⟩
  case rest =>
    obtain ⟨rfl, B23⟩ := hcut
    obtain ⟨W3, rfl⟩ : ∃ x : World, x = wc := ⟨_, rfl⟩
    have B3 : Aside0 (Below W1.heap.size W1 W3) := btrans B2 B23
    replace hF := bcellA B23 hF
    replace hnow := bcellA B23 hnow
    replace c0 := bcellA B23 c0
    replace c1 := bcellA B23 c1
    replace c2 := bcellA B23 c2
    replace c3 := bcellA B23 c3
    replace c4 := bcellA B23 c4
    go_upto_region 5 with fail
    go_cut [71] (fun v W => v = .bool true ∧ Aside0 (Below W3.heap.size W3 W))
    case first =>
      refine wp_region_held_drew (S := (fun W => W.cell? ⟨g, 0, none⟩ = some (.int .i64 F) ∧ W.cell? ⟨g, 2 + ch.toNat * 5, none⟩ = some (.int .i64 c) ∧ W.cell? ⟨g, 2 + ch.toNat * 5 + 1, none⟩ = some (.int .i64 sq0) ∧ W.cell? ⟨g, 2 + ch.toNat * 5 + 2, none⟩ = some (.slice A0 n0 cap0) ∧ W.cell? ⟨g, 2 + ch.toNat * 5 + 3, none⟩ = some (.int .i64 a) ∧ W.cell? ⟨g, 2 + ch.toNat * 5 + 4, none⟩ = some (.bool true))) (by kernel_rfl) ?_ (fun hHeld => ?_)
      · exact ⟨hF, c0, c1, c2, c3, c4⟩
      refine wpAnyH_take (i := 0) (oi := { dst := some 48, op := Go.Op.move (Go.Operand.tmp 5), type := 64, pos := "link.go:45", after := #[], guard := none }) (v := ?vq0) rfl (by kernel_rfl) (by kernel_rfl) (by kernel_rfl) (fun _ _ _ h => h) (Or.inl ⟨by rfl, ?yq0⟩) (by assumption) ?rq0
      case yq0 => ((intro w hSw; (try dsimp only at hSw); go_simp) <;> with_reducible rfl)
      try simp only [Act.put, List.setIfInBounds_toArray, List.set_cons_zero, List.set_cons_succ]
      refine wpAnyH_take (i := 1) (oi := { dst := some 49, op := Go.Op.nilCheck (Go.Operand.tmp 48), type := 0, pos := "link.go:45", after := #[{ on := 0, ground := Go.Ground.data }], guard := none }) (v := ?vq1) rfl (by kernel_rfl) (by kernel_rfl) (by kernel_rfl) (fun _ _ _ h => h) (Or.inl ⟨by rfl, ?yq1⟩) (by assumption) ?rq1
      case yq1 => ((intro w hSw; (try dsimp only at hSw); go_simp) <;> with_reducible rfl)
      try simp only [Act.put, List.setIfInBounds_toArray, List.set_cons_zero, List.set_cons_succ]
      refine wpAnyH_take (i := 2) (oi := { dst := some 50, op := Go.Op.fieldAddr 54 (Go.Operand.tmp 49) 2, type := 0, pos := "link.go:45", after := #[{ on := 1, ground := Go.Ground.data }], guard := none }) (v := ?vq2) rfl (by kernel_rfl) (by kernel_rfl) (by kernel_rfl) (fun _ _ _ h => h) (Or.inl ⟨by rfl, ?yq2⟩) (by assumption) ?rq2
      case yq2 => ((intro w hSw; (try dsimp only at hSw); go_simp) <;> with_reducible rfl)
      try simp only [Act.put, List.setIfInBounds_toArray, List.set_cons_zero, List.set_cons_succ]
      refine wpAnyH_take (i := 3) (oi := { dst := some 51, op := Go.Op.load 4 (Go.Operand.tmp 50), type := 4, pos := "link.go:45", after := #[{ on := 2, ground := Go.Ground.data }], guard := none }) (v := ?vq3) rfl (by kernel_rfl) (by kernel_rfl) (by kernel_rfl) (fun _ _ _ h => h) (Or.inl ⟨by rfl, ?yq3⟩) (by assumption) ?rq3
      case yq3 => ((intro w hSw; (try dsimp only at hSw); go_simp) <;> with_reducible rfl)
      try simp only [Act.put, List.setIfInBounds_toArray, List.set_cons_zero, List.set_cons_succ]
      refine wpAnyH_take (i := 4) (oi := { dst := some 52, op := Go.Op.move (Go.Operand.tmp 51), type := 4, pos := "link.go:45", after := #[{ on := 3, ground := Go.Ground.data }], guard := none }) (v := ?vq4) rfl (by kernel_rfl) (by kernel_rfl) (by kernel_rfl) (fun _ _ _ h => h) (Or.inl ⟨by rfl, ?yq4⟩) (by assumption) ?rq4
      case yq4 => ((intro w hSw; (try dsimp only at hSw); go_simp) <;> with_reducible rfl)
      try simp only [Act.put, List.setIfInBounds_toArray, List.set_cons_zero, List.set_cons_succ]
      refine wpAnyH_take (i := 5) (oi := { dst := some 53, op := Go.Op.move (Go.Operand.tmp 0), type := 24, pos := "link.go:45", after := #[{ on := 4, ground := Go.Ground.guard }], guard := some (4, true) }) (v := ?vq5) rfl (by kernel_rfl) (by kernel_rfl) (by kernel_rfl) (fun _ _ _ h => h) (Or.inl ⟨by rfl, ?yq5⟩) (by assumption) ?rq5
      case yq5 => ((intro w hSw; (try dsimp only at hSw); go_simp) <;> with_reducible rfl)
      try simp only [Act.put, List.setIfInBounds_toArray, List.set_cons_zero, List.set_cons_succ]
      refine wpAnyH_take (i := 6) (oi := { dst := some 54, op := Go.Op.move (Go.Operand.tmp 5), type := 64, pos := "link.go:45", after := #[{ on := 4, ground := Go.Ground.guard }], guard := some (4, true) }) (v := ?vq6) rfl (by kernel_rfl) (by kernel_rfl) (by kernel_rfl) (fun _ _ _ h => h) (Or.inl ⟨by rfl, ?yq6⟩) (by assumption) ?rq6
      case yq6 => ((intro w hSw; (try dsimp only at hSw); go_simp) <;> with_reducible rfl)
      try simp only [Act.put, List.setIfInBounds_toArray, List.set_cons_zero, List.set_cons_succ]
      refine wpAnyH_take (i := 7) (oi := { dst := some 55, op := Go.Op.nilCheck (Go.Operand.tmp 54), type := 0, pos := "link.go:45", after := #[{ on := 6, ground := Go.Ground.data }, { on := 4, ground := Go.Ground.guard }], guard := some (4, true) }) (v := ?vq7) rfl (by kernel_rfl) (by kernel_rfl) (by kernel_rfl) (fun _ _ _ h => h) (Or.inl ⟨by rfl, ?yq7⟩) (by assumption) ?rq7
      case yq7 => ((intro w hSw; (try dsimp only at hSw); go_simp) <;> with_reducible rfl)
      try simp only [Act.put, List.setIfInBounds_toArray, List.set_cons_zero, List.set_cons_succ]
      refine wpAnyH_take (i := 8) (oi := { dst := some 56, op := Go.Op.load 54 (Go.Operand.tmp 55), type := 54, pos := "link.go:45", after := #[{ on := 7, ground := Go.Ground.data }, { on := 4, ground := Go.Ground.guard }], guard := some (4, true) }) (v := ?vq8) rfl (by kernel_rfl) (by kernel_rfl) (by kernel_rfl) (fun _ _ _ h => h) (Or.inl ⟨by rfl, ?yq8⟩) (by assumption) ?rq8
      case yq8 => ((intro w hSw; (try dsimp only at hSw); go_simp) <;> with_reducible rfl)
      try simp only [Act.put, List.setIfInBounds_toArray, List.set_cons_zero, List.set_cons_succ]
      refine wpAnyH_take (i := 10) (oi := { dst := some 58, op := Go.Op.move (Go.Operand.tmp 0), type := 24, pos := "link.go:45", after := #[{ on := 4, ground := Go.Ground.guard }], guard := some (4, true) }) (v := ?vq10) rfl (by kernel_rfl) (by kernel_rfl) (by kernel_rfl) (fun _ _ _ h => h) (Or.inl ⟨by rfl, ?yq10⟩) (by assumption) ?rq10
      case yq10 => ((intro w hSw; (try dsimp only at hSw); go_simp) <;> with_reducible rfl)
      try simp only [Act.put, List.setIfInBounds_toArray, List.set_cons_zero, List.set_cons_succ]
      refine wpAnyH_take (i := 11) (oi := { dst := some 59, op := Go.Op.nilCheck (Go.Operand.tmp 58), type := 0, pos := "link.go:45", after := #[{ on := 10, ground := Go.Ground.data }, { on := 4, ground := Go.Ground.guard }], guard := some (4, true) }) (v := ?vq11) rfl (by kernel_rfl) (by kernel_rfl) (by kernel_rfl) (fun _ _ _ h => h) (Or.inl ⟨by rfl, ?yq11⟩) (by assumption) ?rq11
      case yq11 => ((intro w hSw; (try dsimp only at hSw); go_simp) <;> with_reducible rfl)
      try simp only [Act.put, List.setIfInBounds_toArray, List.set_cons_zero, List.set_cons_succ]
      refine wpAnyH_take (i := 12) (oi := { dst := some 60, op := Go.Op.fieldAddr 57 (Go.Operand.tmp 59) 0, type := 0, pos := "link.go:45", after := #[{ on := 11, ground := Go.Ground.data }, { on := 4, ground := Go.Ground.guard }], guard := some (4, true) }) (v := ?vq12) rfl (by kernel_rfl) (by kernel_rfl) (by kernel_rfl) (fun _ _ _ h => h) (Or.inl ⟨by rfl, ?yq12⟩) (by assumption) ?rq12
      case yq12 => ((intro w hSw; (try dsimp only at hSw); go_simp) <;> with_reducible rfl)
      try simp only [Act.put, List.setIfInBounds_toArray, List.set_cons_zero, List.set_cons_succ]
      refine wpAnyH_take (i := 13) (oi := { dst := some 61, op := Go.Op.load 3 (Go.Operand.tmp 60), type := 3, pos := "link.go:45", after := #[{ on := 12, ground := Go.Ground.data }, { on := 4, ground := Go.Ground.guard }], guard := some (4, true) }) (v := ?vq13) rfl (by kernel_rfl) (by kernel_rfl) (by kernel_rfl) (fun _ _ _ h => h) (Or.inl ⟨by rfl, ?yq13⟩) (by assumption) ?rq13
      case yq13 => ((intro w hSw; (try dsimp only at hSw); go_simp) <;> with_reducible rfl)
      try simp only [Act.put, List.setIfInBounds_toArray, List.set_cons_zero, List.set_cons_succ]
      refine wpAnyH_ready (rs := [9]) (by kernel_rfl) (by simp) ?_
      refine AllReadyH.cons (o := { dst := some 57, op := Go.Op.call { callee := Go.Callee.value (Go.Operand.func 25), args := #[Go.Operand.tmp 53, Go.Operand.tmp 56], argTypes := #[24, 54] }, type := 3, pos := "link.go:45", after := #[{ on := 5, ground := Go.Ground.data }, { on := 8, ground := Go.Ground.data }, { on := 4, ground := Go.Ground.chain }, { on := 4, ground := Go.Ground.guard }], guard := some (4, true) }) rfl (fun K hK => ?kq9) AllReadyH.nil
      go_simp
      refine (age_calls g F now c sq0 a (.slice A0 n0 cap0) true W3.drew hF hnow E.out).mono ?_
      rintro e w5 ⟨rfl, hb5⟩
      have D5 := Aside0.mk (of_drew hb5)
      clear hb5
      refine hK.out _ _ ?_ (fun hHeld => ?_)
      · exact ⟨bcellA D5 hF, bcellA D5 c0, bcellA D5 c1, bcellA D5 c2, bcellA D5 c3, bcellA D5 c4⟩
      clear hK K
      try simp only [Act.put, List.setIfInBounds_toArray, List.set_cons_zero, List.set_cons_succ]
      refine wpAnyH_take (i := 14) (oi := { dst := some 62, op := Go.Op.binOp Go.BinOp.leq 3 (Go.Operand.tmp 57) (Go.Operand.tmp 61) 3, type := 4, pos := "link.go:45", after := #[{ on := 9, ground := Go.Ground.data }, { on := 13, ground := Go.Ground.data }, { on := 4, ground := Go.Ground.guard }], guard := some (4, true) }) (v := ?vq14) rfl (by kernel_rfl) (by kernel_rfl) (by kernel_rfl) (fun _ _ _ h => h) (Or.inl ⟨by rfl, ?yq14⟩) (by assumption) ?rq14
      case yq14 => ((intro w hSw; (try dsimp only at hSw); go_simp) <;> with_reducible rfl)
      try simp only [Act.put, List.setIfInBounds_toArray, List.set_cons_zero, List.set_cons_succ]
      refine wpAnyH_take (i := 15) (oi := { dst := some 63, op := Go.Op.pick (Go.Operand.tmp 52) (Go.Operand.tmp 62) (Go.Operand.const (Go.Value.bool false)), type := 4, pos := "link.go:45", after := #[{ on := 4, ground := Go.Ground.data }, { on := 14, ground := Go.Ground.data }], guard := none }) (v := ?vq15) rfl (by kernel_rfl) (by kernel_rfl) (by kernel_rfl) (fun _ _ _ h => h) (Or.inl ⟨by rfl, ?yq15⟩) (by assumption) ?rq15
      case yq15 => ((intro w hSw; (try dsimp only at hSw); go_simp) <;> with_reducible rfl)
      try simp only [Act.put, List.setIfInBounds_toArray, List.set_cons_zero, List.set_cons_succ]
      refine wpAnyH_take (i := 16) (oi := { dst := some 64, op := Go.Op.move (Go.Operand.tmp 63), type := 4, pos := "link.go:45", after := #[{ on := 15, ground := Go.Ground.data }, { on := 9, ground := Go.Ground.chain }], guard := none }) (v := ?vq16) rfl (by kernel_rfl) (by kernel_rfl) (by kernel_rfl) (fun _ _ _ h => h) (Or.inl ⟨by rfl, ?yq16⟩) (by assumption) ?rq16
      case yq16 => ((intro w hSw; (try dsimp only at hSw); go_simp) <;> with_reducible rfl)
      try simp only [Act.put, List.setIfInBounds_toArray, List.set_cons_zero, List.set_cons_succ]
      refine wpAnyH_take (i := 17) (oi := { dst := some 65, op := Go.Op.move (Go.Operand.tmp 6), type := 3, pos := "link.go:45", after := #[{ on := 16, ground := Go.Ground.guard }], guard := some (16, true) }) (v := ?vq17) rfl (by kernel_rfl) (by kernel_rfl) (by kernel_rfl) (fun _ _ _ h => h) (Or.inl ⟨by rfl, ?yq17⟩) (by assumption) ?rq17
      case yq17 => ((intro w hSw; (try dsimp only at hSw); go_simp) <;> with_reducible rfl)
      try simp only [Act.put, List.setIfInBounds_toArray, List.set_cons_zero, List.set_cons_succ]
      refine wpAnyH_take (i := 18) (oi := { dst := some 66, op := Go.Op.binOp Go.BinOp.eql 3 (Go.Operand.tmp 65) (Go.Operand.const (Go.Value.int Go.IntKind.i64 0)) 3, type := 4, pos := "link.go:45", after := #[{ on := 17, ground := Go.Ground.data }, { on := 16, ground := Go.Ground.guard }], guard := some (16, true) }) (v := ?vq18) rfl (by kernel_rfl) (by kernel_rfl) (by kernel_rfl) (fun _ _ _ h => h) (Or.inl ⟨by rfl, ?yq18⟩) (by assumption) ?rq18
      case yq18 => ((intro w hSw; (try dsimp only at hSw); go_simp) <;> with_reducible rfl)
      try simp only [Act.put, List.setIfInBounds_toArray, List.set_cons_zero, List.set_cons_succ]
      refine wpAnyH_take (i := 19) (oi := { dst := some 67, op := Go.Op.move (Go.Operand.tmp 66), type := 4, pos := "link.go:45", after := #[{ on := 18, ground := Go.Ground.data }, { on := 16, ground := Go.Ground.chain }, { on := 16, ground := Go.Ground.guard }], guard := some (16, true) }) (v := ?vq19) rfl (by kernel_rfl) (by kernel_rfl) (by kernel_rfl) (fun _ _ _ h => h) (Or.inl ⟨by rfl, ?yq19⟩) (by assumption) ?rq19
      case yq19 => ((intro w hSw; (try dsimp only at hSw); go_simp) <;> with_reducible rfl)
      try simp only [Act.put, List.setIfInBounds_toArray, List.set_cons_zero, List.set_cons_succ]
      refine wpAnyH_take (i := 20) (oi := { dst := some 68, op := Go.Op.move (Go.Operand.tmp 6), type := 3, pos := "link.go:45", after := #[{ on := 19, ground := Go.Ground.guard }], guard := some (19, false) }) (v := undef) rfl (by kernel_rfl) (by kernel_rfl) (by kernel_rfl) (fun _ _ _ h => h) (Or.inr ⟨by rfl, rfl⟩) (by assumption) ?rq20
      try simp only [Act.put, List.setIfInBounds_toArray, List.set_cons_zero, List.set_cons_succ]
      refine wpAnyH_take (i := 21) (oi := { dst := some 69, op := Go.Op.binOp Go.BinOp.gtr 3 (Go.Operand.tmp 68) (Go.Operand.const (Go.Value.int Go.IntKind.i64 16)) 3, type := 4, pos := "link.go:45", after := #[{ on := 20, ground := Go.Ground.data }, { on := 19, ground := Go.Ground.guard }], guard := some (19, false) }) (v := undef) rfl (by kernel_rfl) (by kernel_rfl) (by kernel_rfl) (fun _ _ _ h => h) (Or.inr ⟨by rfl, rfl⟩) (by assumption) ?rq21
      try simp only [Act.put, List.setIfInBounds_toArray, List.set_cons_zero, List.set_cons_succ]
      refine wpAnyH_take (i := 22) (oi := { dst := some 70, op := Go.Op.pick (Go.Operand.tmp 67) (Go.Operand.const (Go.Value.bool true)) (Go.Operand.tmp 69), type := 4, pos := "link.go:45", after := #[{ on := 19, ground := Go.Ground.data }, { on := 21, ground := Go.Ground.data }, { on := 16, ground := Go.Ground.guard }], guard := some (16, true) }) (v := ?vq22) rfl (by kernel_rfl) (by kernel_rfl) (by kernel_rfl) (fun _ _ _ h => h) (Or.inl ⟨by rfl, ?yq22⟩) (by assumption) ?rq22
      case yq22 => ((intro w hSw; (try dsimp only at hSw); go_simp) <;> with_reducible rfl)
      try simp only [Act.put, List.setIfInBounds_toArray, List.set_cons_zero, List.set_cons_succ]
      refine wpAnyH_take (i := 23) (oi := { dst := some 71, op := Go.Op.pick (Go.Operand.tmp 64) (Go.Operand.tmp 70) (Go.Operand.const (Go.Value.bool false)), type := 4, pos := "link.go:45", after := #[{ on := 16, ground := Go.Ground.data }, { on := 22, ground := Go.Ground.data }], guard := none }) (v := ?vq23) rfl (by kernel_rfl) (by kernel_rfl) (by kernel_rfl) (fun _ _ _ h => h) (Or.inl ⟨by rfl, ?yq23⟩) (by assumption) ?rq23
      case yq23 => ((intro w hSw; (try dsimp only at hSw); go_simp) <;> with_reducible rfl)
      try simp only [Act.put, List.setIfInBounds_toArray, List.set_cons_zero, List.set_cons_succ]
      refine wpAnyH_done (by kernel_rfl) ?_ _
      go_wp2_with fail
      go_meet
      case rel => exact ⟨rfl, D5⟩
    case rest =>
      obtain ⟨rfl, B4⟩ := hcut
      obtain ⟨w3, rfl⟩ : ∃ x : World, x = wc := ⟨_, rfl⟩
      have B5 : Aside0 (Below W1.heap.size W1 w3) := btrans B3 B4
      go_wp2_with fail
      refine (new_err 4 sLink _ (by decide)).mono ?_
      rintro e w6 ⟨v, rfl, hE, hb6⟩
      have HE := Aside0.mk hE
      have B6 := btrans (btrans B B5) ⟨hb6⟩
      clear hE hb6
      go_wp2_with fail
      go_ret
      exact ⟨_, rfl, HE.out, B6.out⟩
set_option maxHeartbeats 16000000 in
set_option maxRecDepth 100000 in
theorem take_oldC (g : Nat) (ch sq : Int) (A : Option Addr) (n cap : Nat) (F now c sq0 a : Int) (A0 : Option Addr) (n0 cap0 : Nat) (ah : Int) (w : World) (hah : (sq - sq0 + 256) % 256 = ah)
    (h0 : 0 ≤ ch) (h1 : ch ≤ 15) (h2 : 0 ≤ sq) (h3 : sq ≤ 255) (hn : n ≤ 16) (h4 : 0 ≤ sq0) (h5 : sq0 ≤ 255)
    (hF : w.cell? ⟨g, 0, none⟩ = some (.int .i64 F)) (hnow : w.cell? ⟨g, 1, none⟩ = some (.int .i64 now))
    (h : 0 ≤ a ∧ a ≤ now ∧ now ≤ 1000000 ∧ 0 ≤ F ∧ F ≤ 6000)
    (c0 : w.cell? ⟨g, 2 + ch.toNat * 5, none⟩ = some (.int .i64 c)) (c1 : w.cell? ⟨g, 2 + ch.toNat * 5 + 1, none⟩ = some (.int .i64 sq0))
    (c2 : w.cell? ⟨g, 2 + ch.toNat * 5 + 2, none⟩ = some (.slice A0 n0 cap0)) (c3 : w.cell? ⟨g, 2 + ch.toNat * 5 + 3, none⟩ = some (.int .i64 a)) (c4 : w.cell? ⟨g, 2 + ch.toNat * 5 + 4, none⟩ = some (.bool true))
    (hfr : decide (min (now - a) (F + 1) ≤ F) = true) (hz : (ah == 0) = false) (hfar : decide (16 < ah) = true)
    : Calls Tryd.prog 15 #[.pointer (some ⟨g, 0, none⟩), .agg #[.int .i64 ch, .int .i64 sq, .slice A n cap]] w fun e w' => ∃ v, e = .returned v ∧ ErrP w' 4 [sLink] v ∧ Below w.heap.size w w' := by
  have B : Aside0 (Below w.heap.size w (w.alloc (.cells #[.int .i64 ch, .int .i64 sq, .slice A n cap] 30))) := balloc ⟨Below.refl _ _⟩ _
  have HG := heap_new w (.cells #[.int .i64 ch, .int .i64 sq, .slice A n cap] 30)
  have d0 : decide (ch < 0) = false := decide_eq_false (by omega)
  have d1 : decide (15 < ch) = false := decide_eq_false (by omega)
  have d2 : decide (sq < 0) = false := decide_eq_false (by omega)
  have d3 : decide (256 ≤ sq) = false := decide_eq_false (by omega)
  have d4 : decide (16 < (n : Int)) = false := decide_eq_false (by omega)
  have hi : 0 ≤ ch ∧ ch < 16 := by omega
  replace hF := bcellA B hF
  replace hnow := bcellA B hnow
  replace c0 := bcellA B c0
  replace c1 := bcellA B c1
  replace c2 := bcellA B c2
  replace c3 := bcellA B c3
  replace c4 := bcellA B c4
  have E := Aside0.mk h
  have HAH := Aside0.mk hah
  clear h hah
  go_enter Tryd.func15, Tryd.ntmps15
  go_upto_region 1 with fail
  obtain ⟨W1, hW⟩ : ∃ W1, W1 = (w.alloc (.cells #[.int .i64 ch, .int .i64 sq, .slice A n cap] 30)) := ⟨_, rfl⟩
  rw [← hW] at HG B hF hnow c0 c1 c2 c3 c4 ⊢
  clear hW
  have q0 : World.cell? W1 ⟨w.heap.size, 0, none⟩ = some (.int .i64 ch) := cell_of_heap HG 0
  have q1 : World.cell? W1 ⟨w.heap.size, 1, none⟩ = some (.int .i64 sq) := cell_of_heap HG 1
  have q2 : World.cell? W1 ⟨w.heap.size, 2, none⟩ = some (.slice A n cap) := cell_of_heap HG 2
  have HG1 := Aside0.mk HG
  clear HG
  go_upto_region 3 with fail
  go_quiet (fail)
  obtain ⟨W2, hW⟩ : ∃ W2, W2 = W1.drewN nq := ⟨_, rfl⟩
  rw [← hW]
  have B2 : Aside0 (Below W1.heap.size W1 W2) := by subst hW; exact ⟨pw_below_drewN (Below.refl _ _) _⟩
  clear hW
  replace hF := bcellA B2 hF
  replace hnow := bcellA B2 hnow
  replace c0 := bcellA B2 c0
  replace c1 := bcellA B2 c1
  replace c2 := bcellA B2 c2
  replace c3 := bcellA B2 c3
  replace c4 := bcellA B2 c4
  replace q0 := bcellA B2 q0
  replace q1 := bcellA B2 q1
  replace q2 := bcellA B2 q2
  go_upto_region 4 with fail
  go_cut [6] (fun v W => v = .int .i64 ah ∧ Aside0 (Below W2.heap.size W2 W))
  case first =>
    go_quiet (fail)
    go_wp2_with fail
    go_meet
    case rel => exact ⟨by first | (rw [← HAH.out]; done) | (rw [← HAH.out]; congr 1; omega), ⟨pw_below_drewN (Below.refl _ _) _⟩⟩
  case rest =>
    obtain ⟨rfl, B23⟩ := hcut
    obtain ⟨W3, rfl⟩ : ∃ x : World, x = wc := ⟨_, rfl⟩
    have B3 : Aside0 (Below W1.heap.size W1 W3) := btrans B2 B23
    replace hF := bcellA B23 hF
    replace hnow := bcellA B23 hnow
    replace c0 := bcellA B23 c0
    replace c1 := bcellA B23 c1
    replace c2 := bcellA B23 c2
    replace c3 := bcellA B23 c3
    replace c4 := bcellA B23 c4
    go_upto_region 5 with fail
    go_cut [71] (fun v W => v = .bool true ∧ Aside0 (Below W3.heap.size W3 W))
    case first =>
      refine wp_region_held_drew (S := (fun W => W.cell? ⟨g, 0, none⟩ = some (.int .i64 F) ∧ W.cell? ⟨g, 2 + ch.toNat * 5, none⟩ = some (.int .i64 c) ∧ W.cell? ⟨g, 2 + ch.toNat * 5 + 1, none⟩ = some (.int .i64 sq0) ∧ W.cell? ⟨g, 2 + ch.toNat * 5 + 2, none⟩ = some (.slice A0 n0 cap0) ∧ W.cell? ⟨g, 2 + ch.toNat * 5 + 3, none⟩ = some (.int .i64 a) ∧ W.cell? ⟨g, 2 + ch.toNat * 5 + 4, none⟩ = some (.bool true))) (by kernel_rfl) ?_ (fun hHeld => ?_)
      · exact ⟨hF, c0, c1, c2, c3, c4⟩
      refine wpAnyH_take (i := 0) (oi := { dst := some 48, op := Go.Op.move (Go.Operand.tmp 5), type := 64, pos := "link.go:45", after := #[], guard := none }) (v := ?vq0) rfl (by kernel_rfl) (by kernel_rfl) (by kernel_rfl) (fun _ _ _ h => h) (Or.inl ⟨by rfl, ?yq0⟩) (by assumption) ?rq0
      case yq0 => ((intro w hSw; (try dsimp only at hSw); go_simp) <;> with_reducible rfl)
      try simp only [Act.put, List.setIfInBounds_toArray, List.set_cons_zero, List.set_cons_succ]
      refine wpAnyH_take (i := 1) (oi := { dst := some 49, op := Go.Op.nilCheck (Go.Operand.tmp 48), type := 0, pos := "link.go:45", after := #[{ on := 0, ground := Go.Ground.data }], guard := none }) (v := ?vq1) rfl (by kernel_rfl) (by kernel_rfl) (by kernel_rfl) (fun _ _ _ h => h) (Or.inl ⟨by rfl, ?yq1⟩) (by assumption) ?rq1
      case yq1 => ((intro w hSw; (try dsimp only at hSw); go_simp) <;> with_reducible rfl)
      try simp only [Act.put, List.setIfInBounds_toArray, List.set_cons_zero, List.set_cons_succ]
      refine wpAnyH_take (i := 2) (oi := { dst := some 50, op := Go.Op.fieldAddr 54 (Go.Operand.tmp 49) 2, type := 0, pos := "link.go:45", after := #[{ on := 1, ground := Go.Ground.data }], guard := none }) (v := ?vq2) rfl (by kernel_rfl) (by kernel_rfl) (by kernel_rfl) (fun _ _ _ h => h) (Or.inl ⟨by rfl, ?yq2⟩) (by assumption) ?rq2
      case yq2 => ((intro w hSw; (try dsimp only at hSw); go_simp) <;> with_reducible rfl)
      try simp only [Act.put, List.setIfInBounds_toArray, List.set_cons_zero, List.set_cons_succ]
      refine wpAnyH_take (i := 3) (oi := { dst := some 51, op := Go.Op.load 4 (Go.Operand.tmp 50), type := 4, pos := "link.go:45", after := #[{ on := 2, ground := Go.Ground.data }], guard := none }) (v := ?vq3) rfl (by kernel_rfl) (by kernel_rfl) (by kernel_rfl) (fun _ _ _ h => h) (Or.inl ⟨by rfl, ?yq3⟩) (by assumption) ?rq3
      case yq3 => ((intro w hSw; (try dsimp only at hSw); go_simp) <;> with_reducible rfl)
      try simp only [Act.put, List.setIfInBounds_toArray, List.set_cons_zero, List.set_cons_succ]
      refine wpAnyH_take (i := 4) (oi := { dst := some 52, op := Go.Op.move (Go.Operand.tmp 51), type := 4, pos := "link.go:45", after := #[{ on := 3, ground := Go.Ground.data }], guard := none }) (v := ?vq4) rfl (by kernel_rfl) (by kernel_rfl) (by kernel_rfl) (fun _ _ _ h => h) (Or.inl ⟨by rfl, ?yq4⟩) (by assumption) ?rq4
      case yq4 => ((intro w hSw; (try dsimp only at hSw); go_simp) <;> with_reducible rfl)
      try simp only [Act.put, List.setIfInBounds_toArray, List.set_cons_zero, List.set_cons_succ]
      refine wpAnyH_take (i := 5) (oi := { dst := some 53, op := Go.Op.move (Go.Operand.tmp 0), type := 24, pos := "link.go:45", after := #[{ on := 4, ground := Go.Ground.guard }], guard := some (4, true) }) (v := ?vq5) rfl (by kernel_rfl) (by kernel_rfl) (by kernel_rfl) (fun _ _ _ h => h) (Or.inl ⟨by rfl, ?yq5⟩) (by assumption) ?rq5
      case yq5 => ((intro w hSw; (try dsimp only at hSw); go_simp) <;> with_reducible rfl)
      try simp only [Act.put, List.setIfInBounds_toArray, List.set_cons_zero, List.set_cons_succ]
      refine wpAnyH_take (i := 6) (oi := { dst := some 54, op := Go.Op.move (Go.Operand.tmp 5), type := 64, pos := "link.go:45", after := #[{ on := 4, ground := Go.Ground.guard }], guard := some (4, true) }) (v := ?vq6) rfl (by kernel_rfl) (by kernel_rfl) (by kernel_rfl) (fun _ _ _ h => h) (Or.inl ⟨by rfl, ?yq6⟩) (by assumption) ?rq6
      case yq6 => ((intro w hSw; (try dsimp only at hSw); go_simp) <;> with_reducible rfl)
      try simp only [Act.put, List.setIfInBounds_toArray, List.set_cons_zero, List.set_cons_succ]
      refine wpAnyH_take (i := 7) (oi := { dst := some 55, op := Go.Op.nilCheck (Go.Operand.tmp 54), type := 0, pos := "link.go:45", after := #[{ on := 6, ground := Go.Ground.data }, { on := 4, ground := Go.Ground.guard }], guard := some (4, true) }) (v := ?vq7) rfl (by kernel_rfl) (by kernel_rfl) (by kernel_rfl) (fun _ _ _ h => h) (Or.inl ⟨by rfl, ?yq7⟩) (by assumption) ?rq7
      case yq7 => ((intro w hSw; (try dsimp only at hSw); go_simp) <;> with_reducible rfl)
      try simp only [Act.put, List.setIfInBounds_toArray, List.set_cons_zero, List.set_cons_succ]
      refine wpAnyH_take (i := 8) (oi := { dst := some 56, op := Go.Op.load 54 (Go.Operand.tmp 55), type := 54, pos := "link.go:45", after := #[{ on := 7, ground := Go.Ground.data }, { on := 4, ground := Go.Ground.guard }], guard := some (4, true) }) (v := ?vq8) rfl (by kernel_rfl) (by kernel_rfl) (by kernel_rfl) (fun _ _ _ h => h) (Or.inl ⟨by rfl, ?yq8⟩) (by assumption) ?rq8
      case yq8 => ((intro w hSw; (try dsimp only at hSw); go_simp) <;> with_reducible rfl)
      try simp only [Act.put, List.setIfInBounds_toArray, List.set_cons_zero, List.set_cons_succ]
      refine wpAnyH_take (i := 10) (oi := { dst := some 58, op := Go.Op.move (Go.Operand.tmp 0), type := 24, pos := "link.go:45", after := #[{ on := 4, ground := Go.Ground.guard }], guard := some (4, true) }) (v := ?vq10) rfl (by kernel_rfl) (by kernel_rfl) (by kernel_rfl) (fun _ _ _ h => h) (Or.inl ⟨by rfl, ?yq10⟩) (by assumption) ?rq10
      case yq10 => ((intro w hSw; (try dsimp only at hSw); go_simp) <;> with_reducible rfl)
      try simp only [Act.put, List.setIfInBounds_toArray, List.set_cons_zero, List.set_cons_succ]
      refine wpAnyH_take (i := 11) (oi := { dst := some 59, op := Go.Op.nilCheck (Go.Operand.tmp 58), type := 0, pos := "link.go:45", after := #[{ on := 10, ground := Go.Ground.data }, { on := 4, ground := Go.Ground.guard }], guard := some (4, true) }) (v := ?vq11) rfl (by kernel_rfl) (by kernel_rfl) (by kernel_rfl) (fun _ _ _ h => h) (Or.inl ⟨by rfl, ?yq11⟩) (by assumption) ?rq11
      case yq11 => ((intro w hSw; (try dsimp only at hSw); go_simp) <;> with_reducible rfl)
      try simp only [Act.put, List.setIfInBounds_toArray, List.set_cons_zero, List.set_cons_succ]
      refine wpAnyH_take (i := 12) (oi := { dst := some 60, op := Go.Op.fieldAddr 57 (Go.Operand.tmp 59) 0, type := 0, pos := "link.go:45", after := #[{ on := 11, ground := Go.Ground.data }, { on := 4, ground := Go.Ground.guard }], guard := some (4, true) }) (v := ?vq12) rfl (by kernel_rfl) (by kernel_rfl) (by kernel_rfl) (fun _ _ _ h => h) (Or.inl ⟨by rfl, ?yq12⟩) (by assumption) ?rq12
      case yq12 => ((intro w hSw; (try dsimp only at hSw); go_simp) <;> with_reducible rfl)
      try simp only [Act.put, List.setIfInBounds_toArray, List.set_cons_zero, List.set_cons_succ]
      refine wpAnyH_take (i := 13) (oi := { dst := some 61, op := Go.Op.load 3 (Go.Operand.tmp 60), type := 3, pos := "link.go:45", after := #[{ on := 12, ground := Go.Ground.data }, { on := 4, ground := Go.Ground.guard }], guard := some (4, true) }) (v := ?vq13) rfl (by kernel_rfl) (by kernel_rfl) (by kernel_rfl) (fun _ _ _ h => h) (Or.inl ⟨by rfl, ?yq13⟩) (by assumption) ?rq13
      case yq13 => ((intro w hSw; (try dsimp only at hSw); go_simp) <;> with_reducible rfl)
      try simp only [Act.put, List.setIfInBounds_toArray, List.set_cons_zero, List.set_cons_succ]
      refine wpAnyH_ready (rs := [9]) (by kernel_rfl) (by simp) ?_
      refine AllReadyH.cons (o := { dst := some 57, op := Go.Op.call { callee := Go.Callee.value (Go.Operand.func 25), args := #[Go.Operand.tmp 53, Go.Operand.tmp 56], argTypes := #[24, 54] }, type := 3, pos := "link.go:45", after := #[{ on := 5, ground := Go.Ground.data }, { on := 8, ground := Go.Ground.data }, { on := 4, ground := Go.Ground.chain }, { on := 4, ground := Go.Ground.guard }], guard := some (4, true) }) rfl (fun K hK => ?kq9) AllReadyH.nil
      go_simp
      refine (age_calls g F now c sq0 a (.slice A0 n0 cap0) true W3.drew hF hnow E.out).mono ?_
      rintro e w5 ⟨rfl, hb5⟩
      have D5 := Aside0.mk (of_drew hb5)
      clear hb5
      refine hK.out _ _ ?_ (fun hHeld => ?_)
      · exact ⟨bcellA D5 hF, bcellA D5 c0, bcellA D5 c1, bcellA D5 c2, bcellA D5 c3, bcellA D5 c4⟩
      clear hK K
      try simp only [Act.put, List.setIfInBounds_toArray, List.set_cons_zero, List.set_cons_succ]
      refine wpAnyH_take (i := 14) (oi := { dst := some 62, op := Go.Op.binOp Go.BinOp.leq 3 (Go.Operand.tmp 57) (Go.Operand.tmp 61) 3, type := 4, pos := "link.go:45", after := #[{ on := 9, ground := Go.Ground.data }, { on := 13, ground := Go.Ground.data }, { on := 4, ground := Go.Ground.guard }], guard := some (4, true) }) (v := ?vq14) rfl (by kernel_rfl) (by kernel_rfl) (by kernel_rfl) (fun _ _ _ h => h) (Or.inl ⟨by rfl, ?yq14⟩) (by assumption) ?rq14
      case yq14 => ((intro w hSw; (try dsimp only at hSw); go_simp) <;> with_reducible rfl)
      try simp only [Act.put, List.setIfInBounds_toArray, List.set_cons_zero, List.set_cons_succ]
      refine wpAnyH_take (i := 15) (oi := { dst := some 63, op := Go.Op.pick (Go.Operand.tmp 52) (Go.Operand.tmp 62) (Go.Operand.const (Go.Value.bool false)), type := 4, pos := "link.go:45", after := #[{ on := 4, ground := Go.Ground.data }, { on := 14, ground := Go.Ground.data }], guard := none }) (v := ?vq15) rfl (by kernel_rfl) (by kernel_rfl) (by kernel_rfl) (fun _ _ _ h => h) (Or.inl ⟨by rfl, ?yq15⟩) (by assumption) ?rq15
      case yq15 => ((intro w hSw; (try dsimp only at hSw); go_simp) <;> with_reducible rfl)
      try simp only [Act.put, List.setIfInBounds_toArray, List.set_cons_zero, List.set_cons_succ]
      refine wpAnyH_take (i := 16) (oi := { dst := some 64, op := Go.Op.move (Go.Operand.tmp 63), type := 4, pos := "link.go:45", after := #[{ on := 15, ground := Go.Ground.data }, { on := 9, ground := Go.Ground.chain }], guard := none }) (v := ?vq16) rfl (by kernel_rfl) (by kernel_rfl) (by kernel_rfl) (fun _ _ _ h => h) (Or.inl ⟨by rfl, ?yq16⟩) (by assumption) ?rq16
      case yq16 => ((intro w hSw; (try dsimp only at hSw); go_simp) <;> with_reducible rfl)
      try simp only [Act.put, List.setIfInBounds_toArray, List.set_cons_zero, List.set_cons_succ]
      refine wpAnyH_take (i := 17) (oi := { dst := some 65, op := Go.Op.move (Go.Operand.tmp 6), type := 3, pos := "link.go:45", after := #[{ on := 16, ground := Go.Ground.guard }], guard := some (16, true) }) (v := ?vq17) rfl (by kernel_rfl) (by kernel_rfl) (by kernel_rfl) (fun _ _ _ h => h) (Or.inl ⟨by rfl, ?yq17⟩) (by assumption) ?rq17
      case yq17 => ((intro w hSw; (try dsimp only at hSw); go_simp) <;> with_reducible rfl)
      try simp only [Act.put, List.setIfInBounds_toArray, List.set_cons_zero, List.set_cons_succ]
      refine wpAnyH_take (i := 18) (oi := { dst := some 66, op := Go.Op.binOp Go.BinOp.eql 3 (Go.Operand.tmp 65) (Go.Operand.const (Go.Value.int Go.IntKind.i64 0)) 3, type := 4, pos := "link.go:45", after := #[{ on := 17, ground := Go.Ground.data }, { on := 16, ground := Go.Ground.guard }], guard := some (16, true) }) (v := ?vq18) rfl (by kernel_rfl) (by kernel_rfl) (by kernel_rfl) (fun _ _ _ h => h) (Or.inl ⟨by rfl, ?yq18⟩) (by assumption) ?rq18
      case yq18 => ((intro w hSw; (try dsimp only at hSw); go_simp) <;> with_reducible rfl)
      try simp only [Act.put, List.setIfInBounds_toArray, List.set_cons_zero, List.set_cons_succ]
      refine wpAnyH_take (i := 19) (oi := { dst := some 67, op := Go.Op.move (Go.Operand.tmp 66), type := 4, pos := "link.go:45", after := #[{ on := 18, ground := Go.Ground.data }, { on := 16, ground := Go.Ground.chain }, { on := 16, ground := Go.Ground.guard }], guard := some (16, true) }) (v := ?vq19) rfl (by kernel_rfl) (by kernel_rfl) (by kernel_rfl) (fun _ _ _ h => h) (Or.inl ⟨by rfl, ?yq19⟩) (by assumption) ?rq19
      case yq19 => ((intro w hSw; (try dsimp only at hSw); go_simp) <;> with_reducible rfl)
      try simp only [Act.put, List.setIfInBounds_toArray, List.set_cons_zero, List.set_cons_succ]
      refine wpAnyH_take (i := 20) (oi := { dst := some 68, op := Go.Op.move (Go.Operand.tmp 6), type := 3, pos := "link.go:45", after := #[{ on := 19, ground := Go.Ground.guard }], guard := some (19, false) }) (v := ?vq20) rfl (by kernel_rfl) (by kernel_rfl) (by kernel_rfl) (fun _ _ _ h => h) (Or.inl ⟨by rfl, ?yq20⟩) (by assumption) ?rq20
      case yq20 => ((intro w hSw; (try dsimp only at hSw); go_simp) <;> with_reducible rfl)
      try simp only [Act.put, List.setIfInBounds_toArray, List.set_cons_zero, List.set_cons_succ]
      refine wpAnyH_take (i := 21) (oi := { dst := some 69, op := Go.Op.binOp Go.BinOp.gtr 3 (Go.Operand.tmp 68) (Go.Operand.const (Go.Value.int Go.IntKind.i64 16)) 3, type := 4, pos := "link.go:45", after := #[{ on := 20, ground := Go.Ground.data }, { on := 19, ground := Go.Ground.guard }], guard := some (19, false) }) (v := ?vq21) rfl (by kernel_rfl) (by kernel_rfl) (by kernel_rfl) (fun _ _ _ h => h) (Or.inl ⟨by rfl, ?yq21⟩) (by assumption) ?rq21
      case yq21 => ((intro w hSw; (try dsimp only at hSw); go_simp) <;> with_reducible rfl)
      try simp only [Act.put, List.setIfInBounds_toArray, List.set_cons_zero, List.set_cons_succ]
      refine wpAnyH_take (i := 22) (oi := { dst := some 70, op := Go.Op.pick (Go.Operand.tmp 67) (Go.Operand.const (Go.Value.bool true)) (Go.Operand.tmp 69), type := 4, pos := "link.go:45", after := #[{ on := 19, ground := Go.Ground.data }, { on := 21, ground := Go.Ground.data }, { on := 16, ground := Go.Ground.guard }], guard := some (16, true) }) (v := ?vq22) rfl (by kernel_rfl) (by kernel_rfl) (by kernel_rfl) (fun _ _ _ h => h) (Or.inl ⟨by rfl, ?yq22⟩) (by assumption) ?rq22
      case yq22 => ((intro w hSw; (try dsimp only at hSw); go_simp) <;> with_reducible rfl)
      try simp only [Act.put, List.setIfInBounds_toArray, List.set_cons_zero, List.set_cons_succ]
      refine wpAnyH_take (i := 23) (oi := { dst := some 71, op := Go.Op.pick (Go.Operand.tmp 64) (Go.Operand.tmp 70) (Go.Operand.const (Go.Value.bool false)), type := 4, pos := "link.go:45", after := #[{ on := 16, ground := Go.Ground.data }, { on := 22, ground := Go.Ground.data }], guard := none }) (v := ?vq23) rfl (by kernel_rfl) (by kernel_rfl) (by kernel_rfl) (fun _ _ _ h => h) (Or.inl ⟨by rfl, ?yq23⟩) (by assumption) ?rq23
      case yq23 => ((intro w hSw; (try dsimp only at hSw); go_simp) <;> with_reducible rfl)
      try simp only [Act.put, List.setIfInBounds_toArray, List.set_cons_zero, List.set_cons_succ]
      refine wpAnyH_done (by kernel_rfl) ?_ _
      go_wp2_with fail
      go_meet
      case rel => exact ⟨rfl, D5⟩
    case rest =>
      obtain ⟨rfl, B4⟩ := hcut
      obtain ⟨w3, rfl⟩ : ∃ x : World, x = wc := ⟨_, rfl⟩
      have B5 : Aside0 (Below W1.heap.size W1 w3) := btrans B3 B4
      go_wp2_with fail
      refine (new_err 4 sLink _ (by decide)).mono ?_
      rintro e w6 ⟨v, rfl, hE, hb6⟩
      have HE := Aside0.mk hE
      have B6 := btrans (btrans B B5) ⟨hb6⟩
      clear hE hb6
      go_wp2_with fail
      go_ret
      exact ⟨_, rfl, HE.out, B6.out⟩
set_option maxHeartbeats 16000000 in
set_option maxRecDepth 100000 in
theorem take_newN (g : Nat) (ch sq : Int) (A : Option Addr) (n cap : Nat) (F now c sq0 a : Int) (A0 : Option Addr) (n0 cap0 : Nat) (ah : Int) (xs : List Int) (cs : Array Value) (w : World) (hah : (sq - sq0 + 256) % 256 = ah)
    (h0 : 0 ≤ ch) (h1 : ch ≤ 15) (h2 : 0 ≤ sq) (h3 : sq ≤ 255) (hn : n ≤ 16) (h4 : 0 ≤ sq0) (h5 : sq0 ≤ 255)
    (hF : w.cell? ⟨g, 0, none⟩ = some (.int .i64 F)) (hnow : w.cell? ⟨g, 1, none⟩ = some (.int .i64 now))
    (h : 0 ≤ a ∧ a ≤ now ∧ now ≤ 1000000 ∧ 0 ≤ F ∧ F ≤ 6000)
    (c0 : w.cell? ⟨g, 2 + ch.toNat * 5, none⟩ = some (.int .i64 c)) (c1 : w.cell? ⟨g, 2 + ch.toNat * 5 + 1, none⟩ = some (.int .i64 sq0))
    (c2 : w.cell? ⟨g, 2 + ch.toNat * 5 + 2, none⟩ = some (.slice A0 n0 cap0)) (c3 : w.cell? ⟨g, 2 + ch.toNat * 5 + 3, none⟩ = some (.int .i64 a)) (c4 : w.cell? ⟨g, 2 + ch.toNat * 5 + 4, none⟩ = some (.bool false))
    (hC : Kd.C (Kd.int .u8) w A n xs) (hg : w.heap[g]? = some (.cells cs 57 (0, 0)))
    : Calls Tryd.prog 15 #[.pointer (some ⟨g, 0, none⟩), .agg #[.int .i64 ch, .int .i64 sq, .slice A n cap]] w fun e w' => e = .returned .nilIface ∧ ∃ W7 v, Below w.heap.size w W7 ∧ Kd.R (Kd.int .u8) 5 W7 w.heap.size (fun _ => True) v xs ∧ w' = (set5 W7 g (2 + ch.toNat * 5) (.int .i64 ch) (.int .i64 sq) v (.int .i64 now) (.bool true)).drew := by
  have B : Aside0 (Below w.heap.size w (w.alloc (.cells #[.int .i64 ch, .int .i64 sq, .slice A n cap] 30))) := balloc ⟨Below.refl _ _⟩ _
  have HG := heap_new w (.cells #[.int .i64 ch, .int .i64 sq, .slice A n cap] 30)
  have d0 : decide (ch < 0) = false := decide_eq_false (by omega)
  have d1 : decide (15 < ch) = false := decide_eq_false (by omega)
  have d2 : decide (sq < 0) = false := decide_eq_false (by omega)
  have d3 : decide (256 ≤ sq) = false := decide_eq_false (by omega)
  have d4 : decide (16 < (n : Int)) = false := decide_eq_false (by omega)
  have hi : 0 ≤ ch ∧ ch < 16 := by omega
  replace hF := bcellA B hF
  replace hnow := bcellA B hnow
  replace c0 := bcellA B c0
  replace c1 := bcellA B c1
  replace c2 := bcellA B c2
  replace c3 := bcellA B c3
  replace c4 := bcellA B c4
  have E := Aside0.mk h
  have HAH := Aside0.mk hah
  clear h hah
  have HC := Aside0.mk (Kd.C_below hC B.out)
  have Hg := Aside0.mk (heap_below B hg)
  have hlt := Aside0.mk (heap_lt hg)
  clear hC hg
  go_enter Tryd.func15, Tryd.ntmps15
  go_upto_region 1 with fail
  obtain ⟨W1, hW⟩ : ∃ W1, W1 = (w.alloc (.cells #[.int .i64 ch, .int .i64 sq, .slice A n cap] 30)) := ⟨_, rfl⟩
  rw [← hW] at HG B hF hnow c0 c1 c2 c3 c4 HC Hg ⊢
  clear hW
  have q0 : World.cell? W1 ⟨w.heap.size, 0, none⟩ = some (.int .i64 ch) := cell_of_heap HG 0
  have q1 : World.cell? W1 ⟨w.heap.size, 1, none⟩ = some (.int .i64 sq) := cell_of_heap HG 1
  have q2 : World.cell? W1 ⟨w.heap.size, 2, none⟩ = some (.slice A n cap) := cell_of_heap HG 2
  have HG1 := Aside0.mk HG
  clear HG
  go_upto_region 3 with fail
  go_quiet (fail)
  obtain ⟨W2, hW⟩ : ∃ W2, W2 = W1.drewN nq := ⟨_, rfl⟩
  rw [← hW]
  have B2 : Aside0 (Below W1.heap.size W1 W2) := by subst hW; exact ⟨pw_below_drewN (Below.refl _ _) _⟩
  clear hW
  replace hF := bcellA B2 hF
  replace hnow := bcellA B2 hnow
  replace c0 := bcellA B2 c0
  replace c1 := bcellA B2 c1
  replace c2 := bcellA B2 c2
  replace c3 := bcellA B2 c3
  replace c4 := bcellA B2 c4
  replace q0 := bcellA B2 q0
  replace q1 := bcellA B2 q1
  replace q2 := bcellA B2 q2
  go_upto_region 4 with fail
  go_cut [6] (fun v W => v = .int .i64 ah ∧ Aside0 (Below W2.heap.size W2 W))
  case first =>
    go_quiet (fail)
    go_wp2_with fail
    go_meet
    case rel => exact ⟨by first | (rw [← HAH.out]; done) | (rw [← HAH.out]; congr 1; omega), ⟨pw_below_drewN (Below.refl _ _) _⟩⟩
  case rest =>
    obtain ⟨rfl, B23⟩ := hcut
    obtain ⟨W3, rfl⟩ : ∃ x : World, x = wc := ⟨_, rfl⟩
    have B3 : Aside0 (Below W1.heap.size W1 W3) := btrans B2 B23
    replace hF := bcellA B23 hF
    replace hnow := bcellA B23 hnow
    replace c0 := bcellA B23 c0
    replace c1 := bcellA B23 c1
    replace c2 := bcellA B23 c2
    replace c3 := bcellA B23 c3
    replace c4 := bcellA B23 c4
    go_upto_region 5 with fail
    go_cut [71] (fun v W => v = .bool false ∧ Aside0 (Below W3.heap.size W3 W))
    case first =>
      go_quiet (fail)
      go_wp2_with fail
      go_meet
      case rel => exact ⟨rfl, ⟨by repeat (first | exact Below.refl _ _ | apply pw_below_drewN | apply below_drew)⟩⟩
    case rest =>
      obtain ⟨rfl, B4⟩ := hcut
      obtain ⟨w3, rfl⟩ : ∃ x : World, x = wc := ⟨_, rfl⟩
      have B5 : Aside0 (Below W1.heap.size W1 w3) := btrans B3 B4
      have B25 := btrans B23 B4
      have k0 := bcellA B25 q0
      have k1 := bcellA B25 q1
      have k2 := bcellA B25 q2
      have HG3 := Aside0.mk (heap_below B5 HG1.out)
      have Hg3 := Aside0.mk (heap_below B5 Hg.out)
      have HNW := Aside0.mk (bcellA B4 hnow)
      have C0 := Aside0.mk (bcellA B4 c0)
      have C1 := Aside0.mk (bcellA B4 c1)
      have C2 := Aside0.mk (bcellA B4 c2)
      have C3 := Aside0.mk (bcellA B4 c3)
      have C4 := Aside0.mk (bcellA B4 c4)
      clear c0 c1 c2 c3 c4 hF hnow q0 q1 q2
      go_wp2_with fail
      refine (clone_calls A n cap xs _ (Kd.C_below HC.out B5.out) (by omega)).mono ?_
      rintro e w6 ⟨v, rfl, hR, hb⟩
      obtain ⟨A6, c6, rfl, hc6, _⟩ := Kd.R_reads hR
      have B6 : Aside0 (Below w3.heap.size w3 w6) := ⟨hb⟩
      have HR6 := Aside0.mk hR
      have HC6 := Aside0.mk hc6
      have HG6 := heap_below B6 HG3.out
      have Hg6 := Aside0.mk (heap_below B6 Hg3.out)
      have m0 : World.cell? w6 ⟨w.heap.size, 0, none⟩ = some (.int .i64 ch) := cell_of_heap HG6 0
      have m1 : World.cell? w6 ⟨w.heap.size, 1, none⟩ = some (.int .i64 sq) := cell_of_heap HG6 1
      have m2 : World.cell? w6 ⟨w.heap.size, 2, none⟩ = some (.slice A n cap) := cell_of_heap HG6 2
      have f2 := frozen_of_heap HG6 2
      have HG7 := Aside0.mk HG6
      clear hR hb hc6 HG6 k0 k1 k2
      go_upto_region 8 with fail
      have hne : w.heap.size ≠ g := Nat.ne_of_gt hlt.out
      have HG8 : (w6.setCell ⟨w.heap.size, 2, none⟩ (.slice A6 xs.length c6)).heap[w.heap.size]? = some (.cells #[.int .i64 ch, .int .i64 sq, .slice A6 xs.length c6] 30 (0, 0)) := by simpa using blk_set HG7.out 2 (.slice A6 xs.length c6)
      have Hg8 : (w6.setCell ⟨w.heap.size, 2, none⟩ (.slice A6 xs.length c6)).heap[g]? = some (.cells cs 57 (0, 0)) := blk_far Hg6.out (Ne.symm hne) _
      have B8 : Aside0 (Below w.heap.size w (w6.setCell ⟨w.heap.size, 2, none⟩ (.slice A6 xs.length c6))) := ⟨(btrans (btrans B B5) B6).out.setCell (Nat.le_refl _) _⟩
      have NW : (w6.setCell ⟨w.heap.size, 2, none⟩ (.slice A6 xs.length c6)).cell? ⟨g, 1, none⟩ = some (.int .i64 now) := by rw [World.cell?_setCell_far _ _ _ _ hne]; exact bcellA B6 HNW.out
      have l0 : (w6.setCell ⟨w.heap.size, 2, none⟩ (.slice A6 xs.length c6)).cell? ⟨g, 2 + ch.toNat * 5, none⟩ = some (.int .i64 c) := by rw [World.cell?_setCell_far _ _ _ _ hne]; exact bcellA B6 C0.out
      have l1 : (w6.setCell ⟨w.heap.size, 2, none⟩ (.slice A6 xs.length c6)).cell? ⟨g, 2 + ch.toNat * 5 + 1, none⟩ = some (.int .i64 sq0) := by rw [World.cell?_setCell_far _ _ _ _ hne]; exact bcellA B6 C1.out
      have l2 : (w6.setCell ⟨w.heap.size, 2, none⟩ (.slice A6 xs.length c6)).cell? ⟨g, 2 + ch.toNat * 5 + 2, none⟩ = some (.slice A0 n0 cap0) := by rw [World.cell?_setCell_far _ _ _ _ hne]; exact bcellA B6 C2.out
      have l3 : (w6.setCell ⟨w.heap.size, 2, none⟩ (.slice A6 xs.length c6)).cell? ⟨g, 2 + ch.toNat * 5 + 3, none⟩ = some (.int .i64 a) := by rw [World.cell?_setCell_far _ _ _ _ hne]; exact bcellA B6 C3.out
      have l4 : ∃ bb, (w6.setCell ⟨w.heap.size, 2, none⟩ (.slice A6 xs.length c6)).cell? ⟨g, 2 + ch.toNat * 5 + 4, none⟩ = some (.bool bb) := ⟨_, by rw [World.cell?_setCell_far _ _ _ _ hne]; exact bcellA B6 C4.out⟩
      obtain ⟨bb, l4⟩ := l4
      have hbase : w.heap.size < w3.heap.size := by have h1 := heap_lt HG3.out; exact h1
      have R8 := Aside0.mk (Kd.R_lower (base' := w.heap.size) (R_but HR6.out hbase (w1 := w6.setCell ⟨w.heap.size, 2, none⟩ (.slice A6 xs.length c6)) (fun k hk => Below.heap_setCell _ _ _ k hk)) (Nat.le_of_lt hbase))
      generalize w6.setCell ⟨w.heap.size, 2, none⟩ (.slice A6 xs.length c6) = W7 at HG8 Hg8 B8 NW l0 l1 l2 l3 l4 R8 ⊢
      have m0' : World.cell? W7 ⟨w.heap.size, 0, none⟩ = some (.int .i64 ch) := cell_of_heap HG8 0
      have m1' : World.cell? W7 ⟨w.heap.size, 1, none⟩ = some (.int .i64 sq) := cell_of_heap HG8 1
      have m2' : World.cell? W7 ⟨w.heap.size, 2, none⟩ = some (.slice A6 xs.length c6) := cell_of_heap HG8 2
      have z0 := frozen_of_heap Hg8 (2 + ch.toNat * 5)
      have z1 := frozen_of_heap Hg8 (2 + ch.toNat * 5 + 1)
      have z2 := frozen_of_heap Hg8 (2 + ch.toNat * 5 + 2)
      have z3 := frozen_of_heap Hg8 (2 + ch.toNat * 5 + 3)
      have z4 := frozen_of_heap Hg8 (2 + ch.toNat * 5 + 4)
      have md0 : World.cell? W7.drew ⟨w.heap.size, 0, none⟩ = some (.int .i64 ch) := m0'
      have md1 : World.cell? W7.drew ⟨w.heap.size, 1, none⟩ = some (.int .i64 sq) := m1'
      have md2 : World.cell? W7.drew ⟨w.heap.size, 2, none⟩ = some (.slice A6 xs.length c6) := m2'
      have NWd : World.cell? W7.drew ⟨g, 1, none⟩ = some (.int .i64 now) := NW
      clear m0 m1 m2 f2 HG8 Hg8
      go_region_held3 (fun W => W.cell? ⟨w.heap.size, 0, none⟩ = some (.int .i64 ch) ∧ W.cell? ⟨w.heap.size, 1, none⟩ = some (.int .i64 sq) ∧ W.cell? ⟨w.heap.size, 2, none⟩ = some (.slice A6 xs.length c6) ∧ W.cell? ⟨g, 1, none⟩ = some (.int .i64 now)) (first | (with_reducible exact ⟨md0, md1, md2, NWd⟩) | (with_reducible exact ⟨set5_far _ _ _ _ _ (Ne.symm hne) m0', set5_far _ _ _ _ _ (Ne.symm hne) m1', set5_far _ _ _ _ _ (Ne.symm hne) m2', set5_low _ _ _ _ _ NW⟩) | fail) (fail)
      go_wp2_with fail
      go_ret
      exact ⟨rfl, W7, _, B8.out, R8.out, rfl⟩
set_option maxHeartbeats 16000000 in
set_option maxRecDepth 100000 in
theorem take_newA (g : Nat) (ch sq : Int) (A : Option Addr) (n cap : Nat) (F now c sq0 a : Int) (A0 : Option Addr) (n0 cap0 : Nat) (ah : Int) (xs : List Int) (cs : Array Value) (w : World) (hah : (sq - sq0 + 256) % 256 = ah)
    (h0 : 0 ≤ ch) (h1 : ch ≤ 15) (h2 : 0 ≤ sq) (h3 : sq ≤ 255) (hn : n ≤ 16) (h4 : 0 ≤ sq0) (h5 : sq0 ≤ 255)
    (hF : w.cell? ⟨g, 0, none⟩ = some (.int .i64 F)) (hnow : w.cell? ⟨g, 1, none⟩ = some (.int .i64 now))
    (h : 0 ≤ a ∧ a ≤ now ∧ now ≤ 1000000 ∧ 0 ≤ F ∧ F ≤ 6000)
    (c0 : w.cell? ⟨g, 2 + ch.toNat * 5, none⟩ = some (.int .i64 c)) (c1 : w.cell? ⟨g, 2 + ch.toNat * 5 + 1, none⟩ = some (.int .i64 sq0))
    (c2 : w.cell? ⟨g, 2 + ch.toNat * 5 + 2, none⟩ = some (.slice A0 n0 cap0)) (c3 : w.cell? ⟨g, 2 + ch.toNat * 5 + 3, none⟩ = some (.int .i64 a)) (c4 : w.cell? ⟨g, 2 + ch.toNat * 5 + 4, none⟩ = some (.bool true))
    (hfr : decide (min (now - a) (F + 1) ≤ F) = false)
    (hC : Kd.C (Kd.int .u8) w A n xs) (hg : w.heap[g]? = some (.cells cs 57 (0, 0)))
    : Calls Tryd.prog 15 #[.pointer (some ⟨g, 0, none⟩), .agg #[.int .i64 ch, .int .i64 sq, .slice A n cap]] w fun e w' => e = .returned .nilIface ∧ ∃ W7 v, Below w.heap.size w W7 ∧ Kd.R (Kd.int .u8) 5 W7 w.heap.size (fun _ => True) v xs ∧ w' = (set5 W7 g (2 + ch.toNat * 5) (.int .i64 ch) (.int .i64 sq) v (.int .i64 now) (.bool true)).drew := by
  have B : Aside0 (Below w.heap.size w (w.alloc (.cells #[.int .i64 ch, .int .i64 sq, .slice A n cap] 30))) := balloc ⟨Below.refl _ _⟩ _
  have HG := heap_new w (.cells #[.int .i64 ch, .int .i64 sq, .slice A n cap] 30)
  have d0 : decide (ch < 0) = false := decide_eq_false (by omega)
  have d1 : decide (15 < ch) = false := decide_eq_false (by omega)
  have d2 : decide (sq < 0) = false := decide_eq_false (by omega)
  have d3 : decide (256 ≤ sq) = false := decide_eq_false (by omega)
  have d4 : decide (16 < (n : Int)) = false := decide_eq_false (by omega)
  have hi : 0 ≤ ch ∧ ch < 16 := by omega
  replace hF := bcellA B hF
  replace hnow := bcellA B hnow
  replace c0 := bcellA B c0
  replace c1 := bcellA B c1
  replace c2 := bcellA B c2
  replace c3 := bcellA B c3
  replace c4 := bcellA B c4
  have E := Aside0.mk h
  have HAH := Aside0.mk hah
  clear h hah
  have HC := Aside0.mk (Kd.C_below hC B.out)
  have Hg := Aside0.mk (heap_below B hg)
  have hlt := Aside0.mk (heap_lt hg)
  clear hC hg
  go_enter Tryd.func15, Tryd.ntmps15
  go_upto_region 1 with fail
  obtain ⟨W1, hW⟩ : ∃ W1, W1 = (w.alloc (.cells #[.int .i64 ch, .int .i64 sq, .slice A n cap] 30)) := ⟨_, rfl⟩
  rw [← hW] at HG B hF hnow c0 c1 c2 c3 c4 HC Hg ⊢
  clear hW
  have q0 : World.cell? W1 ⟨w.heap.size, 0, none⟩ = some (.int .i64 ch) := cell_of_heap HG 0
  have q1 : World.cell? W1 ⟨w.heap.size, 1, none⟩ = some (.int .i64 sq) := cell_of_heap HG 1
  have q2 : World.cell? W1 ⟨w.heap.size, 2, none⟩ = some (.slice A n cap) := cell_of_heap HG 2
  have HG1 := Aside0.mk HG
  clear HG
  go_upto_region 3 with fail
  go_quiet (fail)
  obtain ⟨W2, hW⟩ : ∃ W2, W2 = W1.drewN nq := ⟨_, rfl⟩
  rw [← hW]
  have B2 : Aside0 (Below W1.heap.size W1 W2) := by subst hW; exact ⟨pw_below_drewN (Below.refl _ _) _⟩
  clear hW
  replace hF := bcellA B2 hF
  replace hnow := bcellA B2 hnow
  replace c0 := bcellA B2 c0
  replace c1 := bcellA B2 c1
  replace c2 := bcellA B2 c2
  replace c3 := bcellA B2 c3
  replace c4 := bcellA B2 c4
  replace q0 := bcellA B2 q0
  replace q1 := bcellA B2 q1
  replace q2 := bcellA B2 q2
  go_upto_region 4 with fail
  go_cut [6] (fun v W => v = .int .i64 ah ∧ Aside0 (Below W2.heap.size W2 W))
  case first =>
    go_quiet (fail)
    go_wp2_with fail
    go_meet
    case rel => exact ⟨by first | (rw [← HAH.out]; done) | (rw [← HAH.out]; congr 1; omega), ⟨pw_below_drewN (Below.refl _ _) _⟩⟩
  case rest =>
    obtain ⟨rfl, B23⟩ := hcut
    obtain ⟨W3, rfl⟩ : ∃ x : World, x = wc := ⟨_, rfl⟩
    have B3 : Aside0 (Below W1.heap.size W1 W3) := btrans B2 B23
    replace hF := bcellA B23 hF
    replace hnow := bcellA B23 hnow
    replace c0 := bcellA B23 c0
    replace c1 := bcellA B23 c1
    replace c2 := bcellA B23 c2
    replace c3 := bcellA B23 c3
    replace c4 := bcellA B23 c4
    go_upto_region 5 with fail
    go_cut [71] (fun v W => v = .bool false ∧ Aside0 (Below W3.heap.size W3 W))
    case first =>
      refine wp_region_held_drew (S := (fun W => W.cell? ⟨g, 0, none⟩ = some (.int .i64 F) ∧ W.cell? ⟨g, 2 + ch.toNat * 5, none⟩ = some (.int .i64 c) ∧ W.cell? ⟨g, 2 + ch.toNat * 5 + 1, none⟩ = some (.int .i64 sq0) ∧ W.cell? ⟨g, 2 + ch.toNat * 5 + 2, none⟩ = some (.slice A0 n0 cap0) ∧ W.cell? ⟨g, 2 + ch.toNat * 5 + 3, none⟩ = some (.int .i64 a) ∧ W.cell? ⟨g, 2 + ch.toNat * 5 + 4, none⟩ = some (.bool true))) (by kernel_rfl) ?_ (fun hHeld => ?_)
      · exact ⟨hF, c0, c1, c2, c3, c4⟩
      refine wpAnyH_take (i := 0) (oi := { dst := some 48, op := Go.Op.move (Go.Operand.tmp 5), type := 64, pos := "link.go:45", after := #[], guard := none }) (v := ?vq0) rfl (by kernel_rfl) (by kernel_rfl) (by kernel_rfl) (fun _ _ _ h => h) (Or.inl ⟨by rfl, ?yq0⟩) (by assumption) ?rq0
      case yq0 => ((intro w hSw; (try dsimp only at hSw); go_simp) <;> with_reducible rfl)
      try simp only [Act.put, List.setIfInBounds_toArray, List.set_cons_zero, List.set_cons_succ]
      refine wpAnyH_take (i := 1) (oi := { dst := some 49, op := Go.Op.nilCheck (Go.Operand.tmp 48), type := 0, pos := "link.go:45", after := #[{ on := 0, ground := Go.Ground.data }], guard := none }) (v := ?vq1) rfl (by kernel_rfl) (by kernel_rfl) (by kernel_rfl) (fun _ _ _ h => h) (Or.inl ⟨by rfl, ?yq1⟩) (by assumption) ?rq1
      case yq1 => ((intro w hSw; (try dsimp only at hSw); go_simp) <;> with_reducible rfl)
      try simp only [Act.put, List.setIfInBounds_toArray, List.set_cons_zero, List.set_cons_succ]
      refine wpAnyH_take (i := 2) (oi := { dst := some 50, op := Go.Op.fieldAddr 54 (Go.Operand.tmp 49) 2, type := 0, pos := "link.go:45", after := #[{ on := 1, ground := Go.Ground.data }], guard := none }) (v := ?vq2) rfl (by kernel_rfl) (by kernel_rfl) (by kernel_rfl) (fun _ _ _ h => h) (Or.inl ⟨by rfl, ?yq2⟩) (by assumption) ?rq2
      case yq2 => ((intro w hSw; (try dsimp only at hSw); go_simp) <;> with_reducible rfl)
      try simp only [Act.put, List.setIfInBounds_toArray, List.set_cons_zero, List.set_cons_succ]
      refine wpAnyH_take (i := 3) (oi := { dst := some 51, op := Go.Op.load 4 (Go.Operand.tmp 50), type := 4, pos := "link.go:45", after := #[{ on := 2, ground := Go.Ground.data }], guard := none }) (v := ?vq3) rfl (by kernel_rfl) (by kernel_rfl) (by kernel_rfl) (fun _ _ _ h => h) (Or.inl ⟨by rfl, ?yq3⟩) (by assumption) ?rq3
      case yq3 => ((intro w hSw; (try dsimp only at hSw); go_simp) <;> with_reducible rfl)
      try simp only [Act.put, List.setIfInBounds_toArray, List.set_cons_zero, List.set_cons_succ]
      refine wpAnyH_take (i := 4) (oi := { dst := some 52, op := Go.Op.move (Go.Operand.tmp 51), type := 4, pos := "link.go:45", after := #[{ on := 3, ground := Go.Ground.data }], guard := none }) (v := ?vq4) rfl (by kernel_rfl) (by kernel_rfl) (by kernel_rfl) (fun _ _ _ h => h) (Or.inl ⟨by rfl, ?yq4⟩) (by assumption) ?rq4
      case yq4 => ((intro w hSw; (try dsimp only at hSw); go_simp) <;> with_reducible rfl)
      try simp only [Act.put, List.setIfInBounds_toArray, List.set_cons_zero, List.set_cons_succ]
      refine wpAnyH_take (i := 5) (oi := { dst := some 53, op := Go.Op.move (Go.Operand.tmp 0), type := 24, pos := "link.go:45", after := #[{ on := 4, ground := Go.Ground.guard }], guard := some (4, true) }) (v := ?vq5) rfl (by kernel_rfl) (by kernel_rfl) (by kernel_rfl) (fun _ _ _ h => h) (Or.inl ⟨by rfl, ?yq5⟩) (by assumption) ?rq5
      case yq5 => ((intro w hSw; (try dsimp only at hSw); go_simp) <;> with_reducible rfl)
      try simp only [Act.put, List.setIfInBounds_toArray, List.set_cons_zero, List.set_cons_succ]
      refine wpAnyH_take (i := 6) (oi := { dst := some 54, op := Go.Op.move (Go.Operand.tmp 5), type := 64, pos := "link.go:45", after := #[{ on := 4, ground := Go.Ground.guard }], guard := some (4, true) }) (v := ?vq6) rfl (by kernel_rfl) (by kernel_rfl) (by kernel_rfl) (fun _ _ _ h => h) (Or.inl ⟨by rfl, ?yq6⟩) (by assumption) ?rq6
      case yq6 => ((intro w hSw; (try dsimp only at hSw); go_simp) <;> with_reducible rfl)
      try simp only [Act.put, List.setIfInBounds_toArray, List.set_cons_zero, List.set_cons_succ]
      refine wpAnyH_take (i := 7) (oi := { dst := some 55, op := Go.Op.nilCheck (Go.Operand.tmp 54), type := 0, pos := "link.go:45", after := #[{ on := 6, ground := Go.Ground.data }, { on := 4, ground := Go.Ground.guard }], guard := some (4, true) }) (v := ?vq7) rfl (by kernel_rfl) (by kernel_rfl) (by kernel_rfl) (fun _ _ _ h => h) (Or.inl ⟨by rfl, ?yq7⟩) (by assumption) ?rq7
      case yq7 => ((intro w hSw; (try dsimp only at hSw); go_simp) <;> with_reducible rfl)
      try simp only [Act.put, List.setIfInBounds_toArray, List.set_cons_zero, List.set_cons_succ]
      refine wpAnyH_take (i := 8) (oi := { dst := some 56, op := Go.Op.load 54 (Go.Operand.tmp 55), type := 54, pos := "link.go:45", after := #[{ on := 7, ground := Go.Ground.data }, { on := 4, ground := Go.Ground.guard }], guard := some (4, true) }) (v := ?vq8) rfl (by kernel_rfl) (by kernel_rfl) (by kernel_rfl) (fun _ _ _ h => h) (Or.inl ⟨by rfl, ?yq8⟩) (by assumption) ?rq8
      case yq8 => ((intro w hSw; (try dsimp only at hSw); go_simp) <;> with_reducible rfl)
      try simp only [Act.put, List.setIfInBounds_toArray, List.set_cons_zero, List.set_cons_succ]
      refine wpAnyH_take (i := 10) (oi := { dst := some 58, op := Go.Op.move (Go.Operand.tmp 0), type := 24, pos := "link.go:45", after := #[{ on := 4, ground := Go.Ground.guard }], guard := some (4, true) }) (v := ?vq10) rfl (by kernel_rfl) (by kernel_rfl) (by kernel_rfl) (fun _ _ _ h => h) (Or.inl ⟨by rfl, ?yq10⟩) (by assumption) ?rq10
      case yq10 => ((intro w hSw; (try dsimp only at hSw); go_simp) <;> with_reducible rfl)
      try simp only [Act.put, List.setIfInBounds_toArray, List.set_cons_zero, List.set_cons_succ]
      refine wpAnyH_take (i := 11) (oi := { dst := some 59, op := Go.Op.nilCheck (Go.Operand.tmp 58), type := 0, pos := "link.go:45", after := #[{ on := 10, ground := Go.Ground.data }, { on := 4, ground := Go.Ground.guard }], guard := some (4, true) }) (v := ?vq11) rfl (by kernel_rfl) (by kernel_rfl) (by kernel_rfl) (fun _ _ _ h => h) (Or.inl ⟨by rfl, ?yq11⟩) (by assumption) ?rq11
      case yq11 => ((intro w hSw; (try dsimp only at hSw); go_simp) <;> with_reducible rfl)
      try simp only [Act.put, List.setIfInBounds_toArray, List.set_cons_zero, List.set_cons_succ]
      refine wpAnyH_take (i := 12) (oi := { dst := some 60, op := Go.Op.fieldAddr 57 (Go.Operand.tmp 59) 0, type := 0, pos := "link.go:45", after := #[{ on := 11, ground := Go.Ground.data }, { on := 4, ground := Go.Ground.guard }], guard := some (4, true) }) (v := ?vq12) rfl (by kernel_rfl) (by kernel_rfl) (by kernel_rfl) (fun _ _ _ h => h) (Or.inl ⟨by rfl, ?yq12⟩) (by assumption) ?rq12
      case yq12 => ((intro w hSw; (try dsimp only at hSw); go_simp) <;> with_reducible rfl)
      try simp only [Act.put, List.setIfInBounds_toArray, List.set_cons_zero, List.set_cons_succ]
      refine wpAnyH_take (i := 13) (oi := { dst := some 61, op := Go.Op.load 3 (Go.Operand.tmp 60), type := 3, pos := "link.go:45", after := #[{ on := 12, ground := Go.Ground.data }, { on := 4, ground := Go.Ground.guard }], guard := some (4, true) }) (v := ?vq13) rfl (by kernel_rfl) (by kernel_rfl) (by kernel_rfl) (fun _ _ _ h => h) (Or.inl ⟨by rfl, ?yq13⟩) (by assumption) ?rq13
      case yq13 => ((intro w hSw; (try dsimp only at hSw); go_simp) <;> with_reducible rfl)
      try simp only [Act.put, List.setIfInBounds_toArray, List.set_cons_zero, List.set_cons_succ]
      refine wpAnyH_ready (rs := [9]) (by kernel_rfl) (by simp) ?_
      refine AllReadyH.cons (o := { dst := some 57, op := Go.Op.call { callee := Go.Callee.value (Go.Operand.func 25), args := #[Go.Operand.tmp 53, Go.Operand.tmp 56], argTypes := #[24, 54] }, type := 3, pos := "link.go:45", after := #[{ on := 5, ground := Go.Ground.data }, { on := 8, ground := Go.Ground.data }, { on := 4, ground := Go.Ground.chain }, { on := 4, ground := Go.Ground.guard }], guard := some (4, true) }) rfl (fun K hK => ?kq9) AllReadyH.nil
      go_simp
      refine (age_calls g F now c sq0 a (.slice A0 n0 cap0) true W3.drew hF hnow E.out).mono ?_
      rintro e w5 ⟨rfl, hb5⟩
      have D5 := Aside0.mk (of_drew hb5)
      clear hb5
      refine hK.out _ _ ?_ (fun hHeld => ?_)
      · exact ⟨bcellA D5 hF, bcellA D5 c0, bcellA D5 c1, bcellA D5 c2, bcellA D5 c3, bcellA D5 c4⟩
      clear hK K
      try simp only [Act.put, List.setIfInBounds_toArray, List.set_cons_zero, List.set_cons_succ]
      refine wpAnyH_take (i := 14) (oi := { dst := some 62, op := Go.Op.binOp Go.BinOp.leq 3 (Go.Operand.tmp 57) (Go.Operand.tmp 61) 3, type := 4, pos := "link.go:45", after := #[{ on := 9, ground := Go.Ground.data }, { on := 13, ground := Go.Ground.data }, { on := 4, ground := Go.Ground.guard }], guard := some (4, true) }) (v := ?vq14) rfl (by kernel_rfl) (by kernel_rfl) (by kernel_rfl) (fun _ _ _ h => h) (Or.inl ⟨by rfl, ?yq14⟩) (by assumption) ?rq14
      case yq14 => ((intro w hSw; (try dsimp only at hSw); go_simp) <;> with_reducible rfl)
      try simp only [Act.put, List.setIfInBounds_toArray, List.set_cons_zero, List.set_cons_succ]
      refine wpAnyH_take (i := 15) (oi := { dst := some 63, op := Go.Op.pick (Go.Operand.tmp 52) (Go.Operand.tmp 62) (Go.Operand.const (Go.Value.bool false)), type := 4, pos := "link.go:45", after := #[{ on := 4, ground := Go.Ground.data }, { on := 14, ground := Go.Ground.data }], guard := none }) (v := ?vq15) rfl (by kernel_rfl) (by kernel_rfl) (by kernel_rfl) (fun _ _ _ h => h) (Or.inl ⟨by rfl, ?yq15⟩) (by assumption) ?rq15
      case yq15 => ((intro w hSw; (try dsimp only at hSw); go_simp) <;> with_reducible rfl)
      try simp only [Act.put, List.setIfInBounds_toArray, List.set_cons_zero, List.set_cons_succ]
      refine wpAnyH_take (i := 16) (oi := { dst := some 64, op := Go.Op.move (Go.Operand.tmp 63), type := 4, pos := "link.go:45", after := #[{ on := 15, ground := Go.Ground.data }, { on := 9, ground := Go.Ground.chain }], guard := none }) (v := ?vq16) rfl (by kernel_rfl) (by kernel_rfl) (by kernel_rfl) (fun _ _ _ h => h) (Or.inl ⟨by rfl, ?yq16⟩) (by assumption) ?rq16
      case yq16 => ((intro w hSw; (try dsimp only at hSw); go_simp) <;> with_reducible rfl)
      try simp only [Act.put, List.setIfInBounds_toArray, List.set_cons_zero, List.set_cons_succ]
      refine wpAnyH_take (i := 17) (oi := { dst := some 65, op := Go.Op.move (Go.Operand.tmp 6), type := 3, pos := "link.go:45", after := #[{ on := 16, ground := Go.Ground.guard }], guard := some (16, true) }) (v := undef) rfl (by kernel_rfl) (by kernel_rfl) (by kernel_rfl) (fun _ _ _ h => h) (Or.inr ⟨by rfl, rfl⟩) (by assumption) ?rq17
      try simp only [Act.put, List.setIfInBounds_toArray, List.set_cons_zero, List.set_cons_succ]
      refine wpAnyH_take (i := 18) (oi := { dst := some 66, op := Go.Op.binOp Go.BinOp.eql 3 (Go.Operand.tmp 65) (Go.Operand.const (Go.Value.int Go.IntKind.i64 0)) 3, type := 4, pos := "link.go:45", after := #[{ on := 17, ground := Go.Ground.data }, { on := 16, ground := Go.Ground.guard }], guard := some (16, true) }) (v := undef) rfl (by kernel_rfl) (by kernel_rfl) (by kernel_rfl) (fun _ _ _ h => h) (Or.inr ⟨by rfl, rfl⟩) (by assumption) ?rq18
      try simp only [Act.put, List.setIfInBounds_toArray, List.set_cons_zero, List.set_cons_succ]
      refine wpAnyH_take (i := 19) (oi := { dst := some 67, op := Go.Op.move (Go.Operand.tmp 66), type := 4, pos := "link.go:45", after := #[{ on := 18, ground := Go.Ground.data }, { on := 16, ground := Go.Ground.chain }, { on := 16, ground := Go.Ground.guard }], guard := some (16, true) }) (v := undef) rfl (by kernel_rfl) (by kernel_rfl) (by kernel_rfl) (fun _ _ _ h => h) (Or.inr ⟨by rfl, rfl⟩) (by assumption) ?rq19
      try simp only [Act.put, List.setIfInBounds_toArray, List.set_cons_zero, List.set_cons_succ]
      refine wpAnyH_take (i := 20) (oi := { dst := some 68, op := Go.Op.move (Go.Operand.tmp 6), type := 3, pos := "link.go:45", after := #[{ on := 19, ground := Go.Ground.guard }], guard := some (19, false) }) (v := undef) rfl (by kernel_rfl) (by kernel_rfl) (by kernel_rfl) (fun _ _ _ h => h) (Or.inr ⟨by rfl, rfl⟩) (by assumption) ?rq20
      try simp only [Act.put, List.setIfInBounds_toArray, List.set_cons_zero, List.set_cons_succ]
      refine wpAnyH_take (i := 21) (oi := { dst := some 69, op := Go.Op.binOp Go.BinOp.gtr 3 (Go.Operand.tmp 68) (Go.Operand.const (Go.Value.int Go.IntKind.i64 16)) 3, type := 4, pos := "link.go:45", after := #[{ on := 20, ground := Go.Ground.data }, { on := 19, ground := Go.Ground.guard }], guard := some (19, false) }) (v := undef) rfl (by kernel_rfl) (by kernel_rfl) (by kernel_rfl) (fun _ _ _ h => h) (Or.inr ⟨by rfl, rfl⟩) (by assumption) ?rq21
      try simp only [Act.put, List.setIfInBounds_toArray, List.set_cons_zero, List.set_cons_succ]
      refine wpAnyH_take (i := 22) (oi := { dst := some 70, op := Go.Op.pick (Go.Operand.tmp 67) (Go.Operand.const (Go.Value.bool true)) (Go.Operand.tmp 69), type := 4, pos := "link.go:45", after := #[{ on := 19, ground := Go.Ground.data }, { on := 21, ground := Go.Ground.data }, { on := 16, ground := Go.Ground.guard }], guard := some (16, true) }) (v := undef) rfl (by kernel_rfl) (by kernel_rfl) (by kernel_rfl) (fun _ _ _ h => h) (Or.inr ⟨by rfl, rfl⟩) (by assumption) ?rq22
      try simp only [Act.put, List.setIfInBounds_toArray, List.set_cons_zero, List.set_cons_succ]
      refine wpAnyH_take (i := 23) (oi := { dst := some 71, op := Go.Op.pick (Go.Operand.tmp 64) (Go.Operand.tmp 70) (Go.Operand.const (Go.Value.bool false)), type := 4, pos := "link.go:45", after := #[{ on := 16, ground := Go.Ground.data }, { on := 22, ground := Go.Ground.data }], guard := none }) (v := ?vq23) rfl (by kernel_rfl) (by kernel_rfl) (by kernel_rfl) (fun _ _ _ h => h) (Or.inl ⟨by rfl, ?yq23⟩) (by assumption) ?rq23
      case yq23 => ((intro w hSw; (try dsimp only at hSw); go_simp) <;> with_reducible rfl)
      try simp only [Act.put, List.setIfInBounds_toArray, List.set_cons_zero, List.set_cons_succ]
      refine wpAnyH_done (by kernel_rfl) ?_ _
      go_wp2_with fail
      go_meet
      case rel => exact ⟨rfl, D5⟩
    case rest =>
      obtain ⟨rfl, B4⟩ := hcut
      obtain ⟨w3, rfl⟩ : ∃ x : World, x = wc := ⟨_, rfl⟩
      have B5 : Aside0 (Below W1.heap.size W1 w3) := btrans B3 B4
      have B25 := btrans B23 B4
      have k0 := bcellA B25 q0
      have k1 := bcellA B25 q1
      have k2 := bcellA B25 q2
      have HG3 := Aside0.mk (heap_below B5 HG1.out)
      have Hg3 := Aside0.mk (heap_below B5 Hg.out)
      have HNW := Aside0.mk (bcellA B4 hnow)
      have C0 := Aside0.mk (bcellA B4 c0)
      have C1 := Aside0.mk (bcellA B4 c1)
      have C2 := Aside0.mk (bcellA B4 c2)
      have C3 := Aside0.mk (bcellA B4 c3)
      have C4 := Aside0.mk (bcellA B4 c4)
      clear c0 c1 c2 c3 c4 hF hnow q0 q1 q2
      go_wp2_with fail
      refine (clone_calls A n cap xs _ (Kd.C_below HC.out B5.out) (by omega)).mono ?_
      rintro e w6 ⟨v, rfl, hR, hb⟩
      obtain ⟨A6, c6, rfl, hc6, _⟩ := Kd.R_reads hR
      have B6 : Aside0 (Below w3.heap.size w3 w6) := ⟨hb⟩
      have HR6 := Aside0.mk hR
      have HC6 := Aside0.mk hc6
      have HG6 := heap_below B6 HG3.out
      have Hg6 := Aside0.mk (heap_below B6 Hg3.out)
      have m0 : World.cell? w6 ⟨w.heap.size, 0, none⟩ = some (.int .i64 ch) := cell_of_heap HG6 0
      have m1 : World.cell? w6 ⟨w.heap.size, 1, none⟩ = some (.int .i64 sq) := cell_of_heap HG6 1
      have m2 : World.cell? w6 ⟨w.heap.size, 2, none⟩ = some (.slice A n cap) := cell_of_heap HG6 2
      have f2 := frozen_of_heap HG6 2
      have HG7 := Aside0.mk HG6
      clear hR hb hc6 HG6 k0 k1 k2
      go_upto_region 8 with fail
      have hne : w.heap.size ≠ g := Nat.ne_of_gt hlt.out
      have HG8 : (w6.setCell ⟨w.heap.size, 2, none⟩ (.slice A6 xs.length c6)).heap[w.heap.size]? = some (.cells #[.int .i64 ch, .int .i64 sq, .slice A6 xs.length c6] 30 (0, 0)) := by simpa using blk_set HG7.out 2 (.slice A6 xs.length c6)
      have Hg8 : (w6.setCell ⟨w.heap.size, 2, none⟩ (.slice A6 xs.length c6)).heap[g]? = some (.cells cs 57 (0, 0)) := blk_far Hg6.out (Ne.symm hne) _
      have B8 : Aside0 (Below w.heap.size w (w6.setCell ⟨w.heap.size, 2, none⟩ (.slice A6 xs.length c6))) := ⟨(btrans (btrans B B5) B6).out.setCell (Nat.le_refl _) _⟩
      have NW : (w6.setCell ⟨w.heap.size, 2, none⟩ (.slice A6 xs.length c6)).cell? ⟨g, 1, none⟩ = some (.int .i64 now) := by rw [World.cell?_setCell_far _ _ _ _ hne]; exact bcellA B6 HNW.out
      have l0 : (w6.setCell ⟨w.heap.size, 2, none⟩ (.slice A6 xs.length c6)).cell? ⟨g, 2 + ch.toNat * 5, none⟩ = some (.int .i64 c) := by rw [World.cell?_setCell_far _ _ _ _ hne]; exact bcellA B6 C0.out
      have l1 : (w6.setCell ⟨w.heap.size, 2, none⟩ (.slice A6 xs.length c6)).cell? ⟨g, 2 + ch.toNat * 5 + 1, none⟩ = some (.int .i64 sq0) := by rw [World.cell?_setCell_far _ _ _ _ hne]; exact bcellA B6 C1.out
      have l2 : (w6.setCell ⟨w.heap.size, 2, none⟩ (.slice A6 xs.length c6)).cell? ⟨g, 2 + ch.toNat * 5 + 2, none⟩ = some (.slice A0 n0 cap0) := by rw [World.cell?_setCell_far _ _ _ _ hne]; exact bcellA B6 C2.out
      have l3 : (w6.setCell ⟨w.heap.size, 2, none⟩ (.slice A6 xs.length c6)).cell? ⟨g, 2 + ch.toNat * 5 + 3, none⟩ = some (.int .i64 a) := by rw [World.cell?_setCell_far _ _ _ _ hne]; exact bcellA B6 C3.out
      have l4 : ∃ bb, (w6.setCell ⟨w.heap.size, 2, none⟩ (.slice A6 xs.length c6)).cell? ⟨g, 2 + ch.toNat * 5 + 4, none⟩ = some (.bool bb) := ⟨_, by rw [World.cell?_setCell_far _ _ _ _ hne]; exact bcellA B6 C4.out⟩
      obtain ⟨bb, l4⟩ := l4
      have hbase : w.heap.size < w3.heap.size := by have h1 := heap_lt HG3.out; exact h1
      have R8 := Aside0.mk (Kd.R_lower (base' := w.heap.size) (R_but HR6.out hbase (w1 := w6.setCell ⟨w.heap.size, 2, none⟩ (.slice A6 xs.length c6)) (fun k hk => Below.heap_setCell _ _ _ k hk)) (Nat.le_of_lt hbase))
      generalize w6.setCell ⟨w.heap.size, 2, none⟩ (.slice A6 xs.length c6) = W7 at HG8 Hg8 B8 NW l0 l1 l2 l3 l4 R8 ⊢
      have m0' : World.cell? W7 ⟨w.heap.size, 0, none⟩ = some (.int .i64 ch) := cell_of_heap HG8 0
      have m1' : World.cell? W7 ⟨w.heap.size, 1, none⟩ = some (.int .i64 sq) := cell_of_heap HG8 1
      have m2' : World.cell? W7 ⟨w.heap.size, 2, none⟩ = some (.slice A6 xs.length c6) := cell_of_heap HG8 2
      have z0 := frozen_of_heap Hg8 (2 + ch.toNat * 5)
      have z1 := frozen_of_heap Hg8 (2 + ch.toNat * 5 + 1)
      have z2 := frozen_of_heap Hg8 (2 + ch.toNat * 5 + 2)
      have z3 := frozen_of_heap Hg8 (2 + ch.toNat * 5 + 3)
      have z4 := frozen_of_heap Hg8 (2 + ch.toNat * 5 + 4)
      have md0 : World.cell? W7.drew ⟨w.heap.size, 0, none⟩ = some (.int .i64 ch) := m0'
      have md1 : World.cell? W7.drew ⟨w.heap.size, 1, none⟩ = some (.int .i64 sq) := m1'
      have md2 : World.cell? W7.drew ⟨w.heap.size, 2, none⟩ = some (.slice A6 xs.length c6) := m2'
      have NWd : World.cell? W7.drew ⟨g, 1, none⟩ = some (.int .i64 now) := NW
      clear m0 m1 m2 f2 HG8 Hg8
      go_region_held3 (fun W => W.cell? ⟨w.heap.size, 0, none⟩ = some (.int .i64 ch) ∧ W.cell? ⟨w.heap.size, 1, none⟩ = some (.int .i64 sq) ∧ W.cell? ⟨w.heap.size, 2, none⟩ = some (.slice A6 xs.length c6) ∧ W.cell? ⟨g, 1, none⟩ = some (.int .i64 now)) (first | (with_reducible exact ⟨md0, md1, md2, NWd⟩) | (with_reducible exact ⟨set5_far _ _ _ _ _ (Ne.symm hne) m0', set5_far _ _ _ _ _ (Ne.symm hne) m1', set5_far _ _ _ _ _ (Ne.symm hne) m2', set5_low _ _ _ _ _ NW⟩) | fail) (fail)
      go_wp2_with fail
      go_ret
      exact ⟨rfl, W7, _, B8.out, R8.out, rfl⟩
set_option maxHeartbeats 16000000 in
set_option maxRecDepth 100000 in
theorem take_newC (g : Nat) (ch sq : Int) (A : Option Addr) (n cap : Nat) (F now c sq0 a : Int) (A0 : Option Addr) (n0 cap0 : Nat) (ah : Int) (xs : List Int) (cs : Array Value) (w : World) (hah : (sq - sq0 + 256) % 256 = ah)
    (h0 : 0 ≤ ch) (h1 : ch ≤ 15) (h2 : 0 ≤ sq) (h3 : sq ≤ 255) (hn : n ≤ 16) (h4 : 0 ≤ sq0) (h5 : sq0 ≤ 255)
    (hF : w.cell? ⟨g, 0, none⟩ = some (.int .i64 F)) (hnow : w.cell? ⟨g, 1, none⟩ = some (.int .i64 now))
    (h : 0 ≤ a ∧ a ≤ now ∧ now ≤ 1000000 ∧ 0 ≤ F ∧ F ≤ 6000)
    (c0 : w.cell? ⟨g, 2 + ch.toNat * 5, none⟩ = some (.int .i64 c)) (c1 : w.cell? ⟨g, 2 + ch.toNat * 5 + 1, none⟩ = some (.int .i64 sq0))
    (c2 : w.cell? ⟨g, 2 + ch.toNat * 5 + 2, none⟩ = some (.slice A0 n0 cap0)) (c3 : w.cell? ⟨g, 2 + ch.toNat * 5 + 3, none⟩ = some (.int .i64 a)) (c4 : w.cell? ⟨g, 2 + ch.toNat * 5 + 4, none⟩ = some (.bool true))
    (hfr : decide (min (now - a) (F + 1) ≤ F) = true) (hz : (ah == 0) = false) (hfar : decide (16 < ah) = false)
    (hC : Kd.C (Kd.int .u8) w A n xs) (hg : w.heap[g]? = some (.cells cs 57 (0, 0)))
    : Calls Tryd.prog 15 #[.pointer (some ⟨g, 0, none⟩), .agg #[.int .i64 ch, .int .i64 sq, .slice A n cap]] w fun e w' => e = .returned .nilIface ∧ ∃ W7 v, Below w.heap.size w W7 ∧ Kd.R (Kd.int .u8) 5 W7 w.heap.size (fun _ => True) v xs ∧ w' = (set5 W7 g (2 + ch.toNat * 5) (.int .i64 ch) (.int .i64 sq) v (.int .i64 now) (.bool true)).drew := by
  have B : Aside0 (Below w.heap.size w (w.alloc (.cells #[.int .i64 ch, .int .i64 sq, .slice A n cap] 30))) := balloc ⟨Below.refl _ _⟩ _
  have HG := heap_new w (.cells #[.int .i64 ch, .int .i64 sq, .slice A n cap] 30)
  have d0 : decide (ch < 0) = false := decide_eq_false (by omega)
  have d1 : decide (15 < ch) = false := decide_eq_false (by omega)
  have d2 : decide (sq < 0) = false := decide_eq_false (by omega)
  have d3 : decide (256 ≤ sq) = false := decide_eq_false (by omega)
  have d4 : decide (16 < (n : Int)) = false := decide_eq_false (by omega)
  have hi : 0 ≤ ch ∧ ch < 16 := by omega
  replace hF := bcellA B hF
  replace hnow := bcellA B hnow
  replace c0 := bcellA B c0
  replace c1 := bcellA B c1
  replace c2 := bcellA B c2
  replace c3 := bcellA B c3
  replace c4 := bcellA B c4
  have E := Aside0.mk h
  have HAH := Aside0.mk hah
  clear h hah
  have HC := Aside0.mk (Kd.C_below hC B.out)
  have Hg := Aside0.mk (heap_below B hg)
  have hlt := Aside0.mk (heap_lt hg)
  clear hC hg
  go_enter Tryd.func15, Tryd.ntmps15
  go_upto_region 1 with fail
  obtain ⟨W1, hW⟩ : ∃ W1, W1 = (w.alloc (.cells #[.int .i64 ch, .int .i64 sq, .slice A n cap] 30)) := ⟨_, rfl⟩
  rw [← hW] at HG B hF hnow c0 c1 c2 c3 c4 HC Hg ⊢
  clear hW
  have q0 : World.cell? W1 ⟨w.heap.size, 0, none⟩ = some (.int .i64 ch) := cell_of_heap HG 0
  have q1 : World.cell? W1 ⟨w.heap.size, 1, none⟩ = some (.int .i64 sq) := cell_of_heap HG 1
  have q2 : World.cell? W1 ⟨w.heap.size, 2, none⟩ = some (.slice A n cap) := cell_of_heap HG 2
  have HG1 := Aside0.mk HG
  clear HG
  go_upto_region 3 with fail
  go_quiet (fail)
  obtain ⟨W2, hW⟩ : ∃ W2, W2 = W1.drewN nq := ⟨_, rfl⟩
  rw [← hW]
  have B2 : Aside0 (Below W1.heap.size W1 W2) := by subst hW; exact ⟨pw_below_drewN (Below.refl _ _) _⟩
  clear hW
  replace hF := bcellA B2 hF
  replace hnow := bcellA B2 hnow
  replace c0 := bcellA B2 c0
  replace c1 := bcellA B2 c1
  replace c2 := bcellA B2 c2
  replace c3 := bcellA B2 c3
  replace c4 := bcellA B2 c4
  replace q0 := bcellA B2 q0
  replace q1 := bcellA B2 q1
  replace q2 := bcellA B2 q2
  go_upto_region 4 with fail
  go_cut [6] (fun v W => v = .int .i64 ah ∧ Aside0 (Below W2.heap.size W2 W))
  case first =>
    go_quiet (fail)
    go_wp2_with fail
    go_meet
    case rel => exact ⟨by first | (rw [← HAH.out]; done) | (rw [← HAH.out]; congr 1; omega), ⟨pw_below_drewN (Below.refl _ _) _⟩⟩
  case rest =>
    obtain ⟨rfl, B23⟩ := hcut
    obtain ⟨W3, rfl⟩ : ∃ x : World, x = wc := ⟨_, rfl⟩
    have B3 : Aside0 (Below W1.heap.size W1 W3) := btrans B2 B23
    replace hF := bcellA B23 hF
    replace hnow := bcellA B23 hnow
    replace c0 := bcellA B23 c0
    replace c1 := bcellA B23 c1
    replace c2 := bcellA B23 c2
    replace c3 := bcellA B23 c3
    replace c4 := bcellA B23 c4
    go_upto_region 5 with fail
    go_cut [71] (fun v W => v = .bool false ∧ Aside0 (Below W3.heap.size W3 W))
    case first =>
      refine wp_region_held_drew (S := (fun W => W.cell? ⟨g, 0, none⟩ = some (.int .i64 F) ∧ W.cell? ⟨g, 2 + ch.toNat * 5, none⟩ = some (.int .i64 c) ∧ W.cell? ⟨g, 2 + ch.toNat * 5 + 1, none⟩ = some (.int .i64 sq0) ∧ W.cell? ⟨g, 2 + ch.toNat * 5 + 2, none⟩ = some (.slice A0 n0 cap0) ∧ W.cell? ⟨g, 2 + ch.toNat * 5 + 3, none⟩ = some (.int .i64 a) ∧ W.cell? ⟨g, 2 + ch.toNat * 5 + 4, none⟩ = some (.bool true))) (by kernel_rfl) ?_ (fun hHeld => ?_)
      · exact ⟨hF, c0, c1, c2, c3, c4⟩
      refine wpAnyH_take (i := 0) (oi := { dst := some 48, op := Go.Op.move (Go.Operand.tmp 5), type := 64, pos := "link.go:45", after := #[], guard := none }) (v := ?vq0) rfl (by kernel_rfl) (by kernel_rfl) (by kernel_rfl) (fun _ _ _ h => h) (Or.inl ⟨by rfl, ?yq0⟩) (by assumption) ?rq0
      case yq0 => ((intro w hSw; (try dsimp only at hSw); go_simp) <;> with_reducible rfl)
      try simp only [Act.put, List.setIfInBounds_toArray, List.set_cons_zero, List.set_cons_succ]
      refine wpAnyH_take (i := 1) (oi := { dst := some 49, op := Go.Op.nilCheck (Go.Operand.tmp 48), type := 0, pos := "link.go:45", after := #[{ on := 0, ground := Go.Ground.data }], guard := none }) (v := ?vq1) rfl (by kernel_rfl) (by kernel_rfl) (by kernel_rfl) (fun _ _ _ h => h) (Or.inl ⟨by rfl, ?yq1⟩) (by assumption) ?rq1
      case yq1 => ((intro w hSw; (try dsimp only at hSw); go_simp) <;> with_reducible rfl)
      try simp only [Act.put, List.setIfInBounds_toArray, List.set_cons_zero, List.set_cons_succ]
      refine wpAnyH_take (i := 2) (oi := { dst := some 50, op := Go.Op.fieldAddr 54 (Go.Operand.tmp 49) 2, type := 0, pos := "link.go:45", after := #[{ on := 1, ground := Go.Ground.data }], guard := none }) (v := ?vq2) rfl (by kernel_rfl) (by kernel_rfl) (by kernel_rfl) (fun _ _ _ h => h) (Or.inl ⟨by rfl, ?yq2⟩) (by assumption) ?rq2
      case yq2 => ((intro w hSw; (try dsimp only at hSw); go_simp) <;> with_reducible rfl)
      try simp only [Act.put, List.setIfInBounds_toArray, List.set_cons_zero, List.set_cons_succ]
      refine wpAnyH_take (i := 3) (oi := { dst := some 51, op := Go.Op.load 4 (Go.Operand.tmp 50), type := 4, pos := "link.go:45", after := #[{ on := 2, ground := Go.Ground.data }], guard := none }) (v := ?vq3) rfl (by kernel_rfl) (by kernel_rfl) (by kernel_rfl) (fun _ _ _ h => h) (Or.inl ⟨by rfl, ?yq3⟩) (by assumption) ?rq3
      case yq3 => ((intro w hSw; (try dsimp only at hSw); go_simp) <;> with_reducible rfl)
      try simp only [Act.put, List.setIfInBounds_toArray, List.set_cons_zero, List.set_cons_succ]
      refine wpAnyH_take (i := 4) (oi := { dst := some 52, op := Go.Op.move (Go.Operand.tmp 51), type := 4, pos := "link.go:45", after := #[{ on := 3, ground := Go.Ground.data }], guard := none }) (v := ?vq4) rfl (by kernel_rfl) (by kernel_rfl) (by kernel_rfl) (fun _ _ _ h => h) (Or.inl ⟨by rfl, ?yq4⟩) (by assumption) ?rq4
      case yq4 => ((intro w hSw; (try dsimp only at hSw); go_simp) <;> with_reducible rfl)
      try simp only [Act.put, List.setIfInBounds_toArray, List.set_cons_zero, List.set_cons_succ]
      refine wpAnyH_take (i := 5) (oi := { dst := some 53, op := Go.Op.move (Go.Operand.tmp 0), type := 24, pos := "link.go:45", after := #[{ on := 4, ground := Go.Ground.guard }], guard := some (4, true) }) (v := ?vq5) rfl (by kernel_rfl) (by kernel_rfl) (by kernel_rfl) (fun _ _ _ h => h) (Or.inl ⟨by rfl, ?yq5⟩) (by assumption) ?rq5
      case yq5 => ((intro w hSw; (try dsimp only at hSw); go_simp) <;> with_reducible rfl)
      try simp only [Act.put, List.setIfInBounds_toArray, List.set_cons_zero, List.set_cons_succ]
      refine wpAnyH_take (i := 6) (oi := { dst := some 54, op := Go.Op.move (Go.Operand.tmp 5), type := 64, pos := "link.go:45", after := #[{ on := 4, ground := Go.Ground.guard }], guard := some (4, true) }) (v := ?vq6) rfl (by kernel_rfl) (by kernel_rfl) (by kernel_rfl) (fun _ _ _ h => h) (Or.inl ⟨by rfl, ?yq6⟩) (by assumption) ?rq6
      case yq6 => ((intro w hSw; (try dsimp only at hSw); go_simp) <;> with_reducible rfl)
      try simp only [Act.put, List.setIfInBounds_toArray, List.set_cons_zero, List.set_cons_succ]
      refine wpAnyH_take (i := 7) (oi := { dst := some 55, op := Go.Op.nilCheck (Go.Operand.tmp 54), type := 0, pos := "link.go:45", after := #[{ on := 6, ground := Go.Ground.data }, { on := 4, ground := Go.Ground.guard }], guard := some (4, true) }) (v := ?vq7) rfl (by kernel_rfl) (by kernel_rfl) (by kernel_rfl) (fun _ _ _ h => h) (Or.inl ⟨by rfl, ?yq7⟩) (by assumption) ?rq7
      case yq7 => ((intro w hSw; (try dsimp only at hSw); go_simp) <;> with_reducible rfl)
      try simp only [Act.put, List.setIfInBounds_toArray, List.set_cons_zero, List.set_cons_succ]
      refine wpAnyH_take (i := 8) (oi := { dst := some 56, op := Go.Op.load 54 (Go.Operand.tmp 55), type := 54, pos := "link.go:45", after := #[{ on := 7, ground := Go.Ground.data }, { on := 4, ground := Go.Ground.guard }], guard := some (4, true) }) (v := ?vq8) rfl (by kernel_rfl) (by kernel_rfl) (by kernel_rfl) (fun _ _ _ h => h) (Or.inl ⟨by rfl, ?yq8⟩) (by assumption) ?rq8
      case yq8 => ((intro w hSw; (try dsimp only at hSw); go_simp) <;> with_reducible rfl)
      try simp only [Act.put, List.setIfInBounds_toArray, List.set_cons_zero, List.set_cons_succ]
      refine wpAnyH_take (i := 10) (oi := { dst := some 58, op := Go.Op.move (Go.Operand.tmp 0), type := 24, pos := "link.go:45", after := #[{ on := 4, ground := Go.Ground.guard }], guard := some (4, true) }) (v := ?vq10) rfl (by kernel_rfl) (by kernel_rfl) (by kernel_rfl) (fun _ _ _ h => h) (Or.inl ⟨by rfl, ?yq10⟩) (by assumption) ?rq10
      case yq10 => ((intro w hSw; (try dsimp only at hSw); go_simp) <;> with_reducible rfl)
      try simp only [Act.put, List.setIfInBounds_toArray, List.set_cons_zero, List.set_cons_succ]
      refine wpAnyH_take (i := 11) (oi := { dst := some 59, op := Go.Op.nilCheck (Go.Operand.tmp 58), type := 0, pos := "link.go:45", after := #[{ on := 10, ground := Go.Ground.data }, { on := 4, ground := Go.Ground.guard }], guard := some (4, true) }) (v := ?vq11) rfl (by kernel_rfl) (by kernel_rfl) (by kernel_rfl) (fun _ _ _ h => h) (Or.inl ⟨by rfl, ?yq11⟩) (by assumption) ?rq11
      case yq11 => ((intro w hSw; (try dsimp only at hSw); go_simp) <;> with_reducible rfl)
      try simp only [Act.put, List.setIfInBounds_toArray, List.set_cons_zero, List.set_cons_succ]
      refine wpAnyH_take (i := 12) (oi := { dst := some 60, op := Go.Op.fieldAddr 57 (Go.Operand.tmp 59) 0, type := 0, pos := "link.go:45", after := #[{ on := 11, ground := Go.Ground.data }, { on := 4, ground := Go.Ground.guard }], guard := some (4, true) }) (v := ?vq12) rfl (by kernel_rfl) (by kernel_rfl) (by kernel_rfl) (fun _ _ _ h => h) (Or.inl ⟨by rfl, ?yq12⟩) (by assumption) ?rq12
      case yq12 => ((intro w hSw; (try dsimp only at hSw); go_simp) <;> with_reducible rfl)
      try simp only [Act.put, List.setIfInBounds_toArray, List.set_cons_zero, List.set_cons_succ]
      refine wpAnyH_take (i := 13) (oi := { dst := some 61, op := Go.Op.load 3 (Go.Operand.tmp 60), type := 3, pos := "link.go:45", after := #[{ on := 12, ground := Go.Ground.data }, { on := 4, ground := Go.Ground.guard }], guard := some (4, true) }) (v := ?vq13) rfl (by kernel_rfl) (by kernel_rfl) (by kernel_rfl) (fun _ _ _ h => h) (Or.inl ⟨by rfl, ?yq13⟩) (by assumption) ?rq13
      case yq13 => ((intro w hSw; (try dsimp only at hSw); go_simp) <;> with_reducible rfl)
      try simp only [Act.put, List.setIfInBounds_toArray, List.set_cons_zero, List.set_cons_succ]
      refine wpAnyH_ready (rs := [9]) (by kernel_rfl) (by simp) ?_
      refine AllReadyH.cons (o := { dst := some 57, op := Go.Op.call { callee := Go.Callee.value (Go.Operand.func 25), args := #[Go.Operand.tmp 53, Go.Operand.tmp 56], argTypes := #[24, 54] }, type := 3, pos := "link.go:45", after := #[{ on := 5, ground := Go.Ground.data }, { on := 8, ground := Go.Ground.data }, { on := 4, ground := Go.Ground.chain }, { on := 4, ground := Go.Ground.guard }], guard := some (4, true) }) rfl (fun K hK => ?kq9) AllReadyH.nil
      go_simp
      refine (age_calls g F now c sq0 a (.slice A0 n0 cap0) true W3.drew hF hnow E.out).mono ?_
      rintro e w5 ⟨rfl, hb5⟩
      have D5 := Aside0.mk (of_drew hb5)
      clear hb5
      refine hK.out _ _ ?_ (fun hHeld => ?_)
      · exact ⟨bcellA D5 hF, bcellA D5 c0, bcellA D5 c1, bcellA D5 c2, bcellA D5 c3, bcellA D5 c4⟩
      clear hK K
      try simp only [Act.put, List.setIfInBounds_toArray, List.set_cons_zero, List.set_cons_succ]
      refine wpAnyH_take (i := 14) (oi := { dst := some 62, op := Go.Op.binOp Go.BinOp.leq 3 (Go.Operand.tmp 57) (Go.Operand.tmp 61) 3, type := 4, pos := "link.go:45", after := #[{ on := 9, ground := Go.Ground.data }, { on := 13, ground := Go.Ground.data }, { on := 4, ground := Go.Ground.guard }], guard := some (4, true) }) (v := ?vq14) rfl (by kernel_rfl) (by kernel_rfl) (by kernel_rfl) (fun _ _ _ h => h) (Or.inl ⟨by rfl, ?yq14⟩) (by assumption) ?rq14
      case yq14 => ((intro w hSw; (try dsimp only at hSw); go_simp) <;> with_reducible rfl)
      try simp only [Act.put, List.setIfInBounds_toArray, List.set_cons_zero, List.set_cons_succ]
      refine wpAnyH_take (i := 15) (oi := { dst := some 63, op := Go.Op.pick (Go.Operand.tmp 52) (Go.Operand.tmp 62) (Go.Operand.const (Go.Value.bool false)), type := 4, pos := "link.go:45", after := #[{ on := 4, ground := Go.Ground.data }, { on := 14, ground := Go.Ground.data }], guard := none }) (v := ?vq15) rfl (by kernel_rfl) (by kernel_rfl) (by kernel_rfl) (fun _ _ _ h => h) (Or.inl ⟨by rfl, ?yq15⟩) (by assumption) ?rq15
      case yq15 => ((intro w hSw; (try dsimp only at hSw); go_simp) <;> with_reducible rfl)
      try simp only [Act.put, List.setIfInBounds_toArray, List.set_cons_zero, List.set_cons_succ]
      refine wpAnyH_take (i := 16) (oi := { dst := some 64, op := Go.Op.move (Go.Operand.tmp 63), type := 4, pos := "link.go:45", after := #[{ on := 15, ground := Go.Ground.data }, { on := 9, ground := Go.Ground.chain }], guard := none }) (v := ?vq16) rfl (by kernel_rfl) (by kernel_rfl) (by kernel_rfl) (fun _ _ _ h => h) (Or.inl ⟨by rfl, ?yq16⟩) (by assumption) ?rq16
      case yq16 => ((intro w hSw; (try dsimp only at hSw); go_simp) <;> with_reducible rfl)
      try simp only [Act.put, List.setIfInBounds_toArray, List.set_cons_zero, List.set_cons_succ]
      refine wpAnyH_take (i := 17) (oi := { dst := some 65, op := Go.Op.move (Go.Operand.tmp 6), type := 3, pos := "link.go:45", after := #[{ on := 16, ground := Go.Ground.guard }], guard := some (16, true) }) (v := ?vq17) rfl (by kernel_rfl) (by kernel_rfl) (by kernel_rfl) (fun _ _ _ h => h) (Or.inl ⟨by rfl, ?yq17⟩) (by assumption) ?rq17
      case yq17 => ((intro w hSw; (try dsimp only at hSw); go_simp) <;> with_reducible rfl)
      try simp only [Act.put, List.setIfInBounds_toArray, List.set_cons_zero, List.set_cons_succ]
      refine wpAnyH_take (i := 18) (oi := { dst := some 66, op := Go.Op.binOp Go.BinOp.eql 3 (Go.Operand.tmp 65) (Go.Operand.const (Go.Value.int Go.IntKind.i64 0)) 3, type := 4, pos := "link.go:45", after := #[{ on := 17, ground := Go.Ground.data }, { on := 16, ground := Go.Ground.guard }], guard := some (16, true) }) (v := ?vq18) rfl (by kernel_rfl) (by kernel_rfl) (by kernel_rfl) (fun _ _ _ h => h) (Or.inl ⟨by rfl, ?yq18⟩) (by assumption) ?rq18
      case yq18 => ((intro w hSw; (try dsimp only at hSw); go_simp) <;> with_reducible rfl)
      try simp only [Act.put, List.setIfInBounds_toArray, List.set_cons_zero, List.set_cons_succ]
      refine wpAnyH_take (i := 19) (oi := { dst := some 67, op := Go.Op.move (Go.Operand.tmp 66), type := 4, pos := "link.go:45", after := #[{ on := 18, ground := Go.Ground.data }, { on := 16, ground := Go.Ground.chain }, { on := 16, ground := Go.Ground.guard }], guard := some (16, true) }) (v := ?vq19) rfl (by kernel_rfl) (by kernel_rfl) (by kernel_rfl) (fun _ _ _ h => h) (Or.inl ⟨by rfl, ?yq19⟩) (by assumption) ?rq19
      case yq19 => ((intro w hSw; (try dsimp only at hSw); go_simp) <;> with_reducible rfl)
      try simp only [Act.put, List.setIfInBounds_toArray, List.set_cons_zero, List.set_cons_succ]
      refine wpAnyH_take (i := 20) (oi := { dst := some 68, op := Go.Op.move (Go.Operand.tmp 6), type := 3, pos := "link.go:45", after := #[{ on := 19, ground := Go.Ground.guard }], guard := some (19, false) }) (v := ?vq20) rfl (by kernel_rfl) (by kernel_rfl) (by kernel_rfl) (fun _ _ _ h => h) (Or.inl ⟨by rfl, ?yq20⟩) (by assumption) ?rq20
      case yq20 => ((intro w hSw; (try dsimp only at hSw); go_simp) <;> with_reducible rfl)
      try simp only [Act.put, List.setIfInBounds_toArray, List.set_cons_zero, List.set_cons_succ]
      refine wpAnyH_take (i := 21) (oi := { dst := some 69, op := Go.Op.binOp Go.BinOp.gtr 3 (Go.Operand.tmp 68) (Go.Operand.const (Go.Value.int Go.IntKind.i64 16)) 3, type := 4, pos := "link.go:45", after := #[{ on := 20, ground := Go.Ground.data }, { on := 19, ground := Go.Ground.guard }], guard := some (19, false) }) (v := ?vq21) rfl (by kernel_rfl) (by kernel_rfl) (by kernel_rfl) (fun _ _ _ h => h) (Or.inl ⟨by rfl, ?yq21⟩) (by assumption) ?rq21
      case yq21 => ((intro w hSw; (try dsimp only at hSw); go_simp) <;> with_reducible rfl)
      try simp only [Act.put, List.setIfInBounds_toArray, List.set_cons_zero, List.set_cons_succ]
      refine wpAnyH_take (i := 22) (oi := { dst := some 70, op := Go.Op.pick (Go.Operand.tmp 67) (Go.Operand.const (Go.Value.bool true)) (Go.Operand.tmp 69), type := 4, pos := "link.go:45", after := #[{ on := 19, ground := Go.Ground.data }, { on := 21, ground := Go.Ground.data }, { on := 16, ground := Go.Ground.guard }], guard := some (16, true) }) (v := ?vq22) rfl (by kernel_rfl) (by kernel_rfl) (by kernel_rfl) (fun _ _ _ h => h) (Or.inl ⟨by rfl, ?yq22⟩) (by assumption) ?rq22
      case yq22 => ((intro w hSw; (try dsimp only at hSw); go_simp) <;> with_reducible rfl)
      try simp only [Act.put, List.setIfInBounds_toArray, List.set_cons_zero, List.set_cons_succ]
      refine wpAnyH_take (i := 23) (oi := { dst := some 71, op := Go.Op.pick (Go.Operand.tmp 64) (Go.Operand.tmp 70) (Go.Operand.const (Go.Value.bool false)), type := 4, pos := "link.go:45", after := #[{ on := 16, ground := Go.Ground.data }, { on := 22, ground := Go.Ground.data }], guard := none }) (v := ?vq23) rfl (by kernel_rfl) (by kernel_rfl) (by kernel_rfl) (fun _ _ _ h => h) (Or.inl ⟨by rfl, ?yq23⟩) (by assumption) ?rq23
      case yq23 => ((intro w hSw; (try dsimp only at hSw); go_simp) <;> with_reducible rfl)
      try simp only [Act.put, List.setIfInBounds_toArray, List.set_cons_zero, List.set_cons_succ]
      refine wpAnyH_done (by kernel_rfl) ?_ _
      go_wp2_with fail
      go_meet
      case rel => exact ⟨rfl, D5⟩
    case rest =>
      obtain ⟨rfl, B4⟩ := hcut
      obtain ⟨w3, rfl⟩ : ∃ x : World, x = wc := ⟨_, rfl⟩
      have B5 : Aside0 (Below W1.heap.size W1 w3) := btrans B3 B4
      have B25 := btrans B23 B4
      have k0 := bcellA B25 q0
      have k1 := bcellA B25 q1
      have k2 := bcellA B25 q2
      have HG3 := Aside0.mk (heap_below B5 HG1.out)
      have Hg3 := Aside0.mk (heap_below B5 Hg.out)
      have HNW := Aside0.mk (bcellA B4 hnow)
      have C0 := Aside0.mk (bcellA B4 c0)
      have C1 := Aside0.mk (bcellA B4 c1)
      have C2 := Aside0.mk (bcellA B4 c2)
      have C3 := Aside0.mk (bcellA B4 c3)
      have C4 := Aside0.mk (bcellA B4 c4)
      clear c0 c1 c2 c3 c4 hF hnow q0 q1 q2
      go_wp2_with fail
      refine (clone_calls A n cap xs _ (Kd.C_below HC.out B5.out) (by omega)).mono ?_
      rintro e w6 ⟨v, rfl, hR, hb⟩
      obtain ⟨A6, c6, rfl, hc6, _⟩ := Kd.R_reads hR
      have B6 : Aside0 (Below w3.heap.size w3 w6) := ⟨hb⟩
      have HR6 := Aside0.mk hR
      have HC6 := Aside0.mk hc6
      have HG6 := heap_below B6 HG3.out
      have Hg6 := Aside0.mk (heap_below B6 Hg3.out)
      have m0 : World.cell? w6 ⟨w.heap.size, 0, none⟩ = some (.int .i64 ch) := cell_of_heap HG6 0
      have m1 : World.cell? w6 ⟨w.heap.size, 1, none⟩ = some (.int .i64 sq) := cell_of_heap HG6 1
      have m2 : World.cell? w6 ⟨w.heap.size, 2, none⟩ = some (.slice A n cap) := cell_of_heap HG6 2
      have f2 := frozen_of_heap HG6 2
      have HG7 := Aside0.mk HG6
      clear hR hb hc6 HG6 k0 k1 k2
      go_upto_region 8 with fail
      have hne : w.heap.size ≠ g := Nat.ne_of_gt hlt.out
      have HG8 : (w6.setCell ⟨w.heap.size, 2, none⟩ (.slice A6 xs.length c6)).heap[w.heap.size]? = some (.cells #[.int .i64 ch, .int .i64 sq, .slice A6 xs.length c6] 30 (0, 0)) := by simpa using blk_set HG7.out 2 (.slice A6 xs.length c6)
      have Hg8 : (w6.setCell ⟨w.heap.size, 2, none⟩ (.slice A6 xs.length c6)).heap[g]? = some (.cells cs 57 (0, 0)) := blk_far Hg6.out (Ne.symm hne) _
      have B8 : Aside0 (Below w.heap.size w (w6.setCell ⟨w.heap.size, 2, none⟩ (.slice A6 xs.length c6))) := ⟨(btrans (btrans B B5) B6).out.setCell (Nat.le_refl _) _⟩
      have NW : (w6.setCell ⟨w.heap.size, 2, none⟩ (.slice A6 xs.length c6)).cell? ⟨g, 1, none⟩ = some (.int .i64 now) := by rw [World.cell?_setCell_far _ _ _ _ hne]; exact bcellA B6 HNW.out
      have l0 : (w6.setCell ⟨w.heap.size, 2, none⟩ (.slice A6 xs.length c6)).cell? ⟨g, 2 + ch.toNat * 5, none⟩ = some (.int .i64 c) := by rw [World.cell?_setCell_far _ _ _ _ hne]; exact bcellA B6 C0.out
      have l1 : (w6.setCell ⟨w.heap.size, 2, none⟩ (.slice A6 xs.length c6)).cell? ⟨g, 2 + ch.toNat * 5 + 1, none⟩ = some (.int .i64 sq0) := by rw [World.cell?_setCell_far _ _ _ _ hne]; exact bcellA B6 C1.out
      have l2 : (w6.setCell ⟨w.heap.size, 2, none⟩ (.slice A6 xs.length c6)).cell? ⟨g, 2 + ch.toNat * 5 + 2, none⟩ = some (.slice A0 n0 cap0) := by rw [World.cell?_setCell_far _ _ _ _ hne]; exact bcellA B6 C2.out
      have l3 : (w6.setCell ⟨w.heap.size, 2, none⟩ (.slice A6 xs.length c6)).cell? ⟨g, 2 + ch.toNat * 5 + 3, none⟩ = some (.int .i64 a) := by rw [World.cell?_setCell_far _ _ _ _ hne]; exact bcellA B6 C3.out
      have l4 : ∃ bb, (w6.setCell ⟨w.heap.size, 2, none⟩ (.slice A6 xs.length c6)).cell? ⟨g, 2 + ch.toNat * 5 + 4, none⟩ = some (.bool bb) := ⟨_, by rw [World.cell?_setCell_far _ _ _ _ hne]; exact bcellA B6 C4.out⟩
      obtain ⟨bb, l4⟩ := l4
      have hbase : w.heap.size < w3.heap.size := by have h1 := heap_lt HG3.out; exact h1
      have R8 := Aside0.mk (Kd.R_lower (base' := w.heap.size) (R_but HR6.out hbase (w1 := w6.setCell ⟨w.heap.size, 2, none⟩ (.slice A6 xs.length c6)) (fun k hk => Below.heap_setCell _ _ _ k hk)) (Nat.le_of_lt hbase))
      generalize w6.setCell ⟨w.heap.size, 2, none⟩ (.slice A6 xs.length c6) = W7 at HG8 Hg8 B8 NW l0 l1 l2 l3 l4 R8 ⊢
      have m0' : World.cell? W7 ⟨w.heap.size, 0, none⟩ = some (.int .i64 ch) := cell_of_heap HG8 0
      have m1' : World.cell? W7 ⟨w.heap.size, 1, none⟩ = some (.int .i64 sq) := cell_of_heap HG8 1
      have m2' : World.cell? W7 ⟨w.heap.size, 2, none⟩ = some (.slice A6 xs.length c6) := cell_of_heap HG8 2
      have z0 := frozen_of_heap Hg8 (2 + ch.toNat * 5)
      have z1 := frozen_of_heap Hg8 (2 + ch.toNat * 5 + 1)
      have z2 := frozen_of_heap Hg8 (2 + ch.toNat * 5 + 2)
      have z3 := frozen_of_heap Hg8 (2 + ch.toNat * 5 + 3)
      have z4 := frozen_of_heap Hg8 (2 + ch.toNat * 5 + 4)
      have md0 : World.cell? W7.drew ⟨w.heap.size, 0, none⟩ = some (.int .i64 ch) := m0'
      have md1 : World.cell? W7.drew ⟨w.heap.size, 1, none⟩ = some (.int .i64 sq) := m1'
      have md2 : World.cell? W7.drew ⟨w.heap.size, 2, none⟩ = some (.slice A6 xs.length c6) := m2'
      have NWd : World.cell? W7.drew ⟨g, 1, none⟩ = some (.int .i64 now) := NW
      clear m0 m1 m2 f2 HG8 Hg8
      go_region_held3 (fun W => W.cell? ⟨w.heap.size, 0, none⟩ = some (.int .i64 ch) ∧ W.cell? ⟨w.heap.size, 1, none⟩ = some (.int .i64 sq) ∧ W.cell? ⟨w.heap.size, 2, none⟩ = some (.slice A6 xs.length c6) ∧ W.cell? ⟨g, 1, none⟩ = some (.int .i64 now)) (first | (with_reducible exact ⟨md0, md1, md2, NWd⟩) | (with_reducible exact ⟨set5_far _ _ _ _ _ (Ne.symm hne) m0', set5_far _ _ _ _ _ (Ne.symm hne) m1', set5_far _ _ _ _ _ (Ne.symm hne) m2', set5_low _ _ _ _ _ NW⟩) | fail) (fail)
      go_wp2_with fail
      go_ret
      exact ⟨rfl, W7, _, B8.out, R8.out, rfl⟩
end Go.Proofs.YtcikcehphpbfhaaDoor.PE
