/- frame: the small case of the statements. -/
import Derived.Test.YtnigocoanlaiiaaDoorHDec
import Derived.Deep.RegionHeld3
namespace Go.Proofs.YtnigocoanlaiiaaDoor.PE
open Go.RowKit Go.Extern.Stop Go.Stop Go.Extern Go.Proofs.YtnigocoanlaiiaaDoorW.PrintWords Go.Proofs.YtnigocoanlaiiaaDoorW.PrintLast Go.Proofs.YtnigocoanlaiiaaDoorW.PrintMore
set_option linter.unusedVariables false
set_option linter.unusedSimpArgs false
theorem C_lit (W : World) (xs : List Int) (hx : xs.length ≤ 1000) : Kd.C (Kd.int .u8) (W.alloc (.cells (xs.map (Value.int .u8)).toArray 5)) (some ⟨W.heap.size, 0, none⟩) xs.length xs := by
  refine ⟨rfl, by omega, fun _ => ⟨⟨W.heap.size, 0, none⟩, rfl, fun j p hj => ⟨[.int .u8 p], rfl, rfl, fun i u hu => ?_⟩⟩⟩
  match i with
  | 0 =>
    have hu : Value.int .u8 p = u := by simpa using hu
    subst hu
    have e : j * (Kd.int .u8).sz + 0 = j := by show j * 1 + 0 = j; omega
    rw [e, add_plain, cell_new]
    simp [hj]
  | i + 1 => simp at hu
def d1 : List Int := encL 1 2 [9]
def d2 : List Int := sealL [1, 2, 3]
theorem d2_eq : sealL [1, 2, 3] = d2 := rfl
theorem d1_eq : d1 = sealL [1, 2, 1, 9] := rfl
theorem d1_encB : encB 1 2 [9] = d1 := if_neg (by decide)
theorem d1_facts : d1.length = 6 ∧ decE d1 = 0 ∧ decC d1 = 1 ∧ decQ d1 = 2 ∧ decD d1 = [9] := by decide +kernel
theorem d2_facts : d2.length = 5 ∧ decE d2 = 2 ∧ decC d2 = 0 ∧ decQ d2 = 0 ∧ decD d2 = [] := by decide +kernel
theorem d3_facts : decE [1] = 3 ∧ decC [1] = 0 ∧ decQ [1] = 0 ∧ decD [1] = [] := by decide +kernel
theorem bytes_seal {l : List Int} (h : Bytes l) : Bytes (sealL l) := by
  intro y hy
  unfold sealL at hy
  have hn := num_lt (sumL l)
  rcases List.mem_append.1 hy with h1 | h1
  · exact h y h1
  · simp at h1
    rcases h1 with rfl | rfl <;> omega
theorem d1_bytes : Bytes d1 := bytes_seal (by intro y hy; simp at hy; omega)
theorem d2_bytes : Bytes d2 := bytes_seal (by intro y hy; simp at hy; omega)
set_option maxHeartbeats 16000000 in
set_option maxRecDepth 100000 in
theorem small_calls (w : World) (hg : Gerr w) : Calls Tryd.prog 9 #[] w fun e w' => e = .returned (.bool true) ∧ Below w.heap.size w w' := by
  have HG := Aside0.mk hg
  clear hg
  go_enter Tryd.func9, Tryd.ntmps9
  go_wp2_with fail
  refine (Encode_calls 1 2 _ 1 [9] _ (C_lit w [9] (by decide)) (by decide) (by decide)).mono ?_
  rintro e w1 ⟨v1, e1, rfl, hE, hR, hb⟩
  have := hE.nil; subst this
  have B1 := Aside0.mk (below_thenB (below_alloc (Below.refl w.heap.size w) (.cells #[.int .u8 9] 5)) hb (by simp))
  rw [d1_encB] at hR
  have R1 := Aside0.mk hR
  obtain ⟨A1, c1, hv, hc1, hC1⟩ := Kd.R_reads R1.out
  rw [d1_facts.1] at hv hc1 hC1
  subst hv
  have C1 := Aside0.mk hC1
  have D1 := Aside0.mk hc1
  clear hE hR hb hC1 hc1 R1
  go_wp2_with fail
  have hA := Decode_calls A1 c1 d1 w1 (by rw [d1_facts.1]; exact C1.out) (by rw [d1_facts.1]; exact D1.out) (by rw [d1_facts.1]; decide) d1_bytes
  rw [d1_facts.2.1, d1_facts.2.2.1, d1_facts.2.2.2.1, d1_facts.2.2.2.2, d1_facts.1] at hA
  refine hA.mono ?_
  clear hA
  rintro e w2 ⟨v2, e2, rfl, hE, ⟨A2, c2, rfl, hc2, hC2⟩, hb⟩
  have := hE.nil; subst this
  have B2 := Aside0.mk (below_thenB B1.out hb B1.out.size)
  have C1b := Aside0.mk (Kd.C_below C1.out hb)
  have C2 := Aside0.mk hC2
  have D2 := Aside0.mk hc2
  clear hE hb hC2 hc2 C1
  go_upto_region 3 with fail
  have hbX := below_alloc (Below.refl w2.heap.size w2) (.cells #[.int .i64 1, .int .i64 2, .slice A2 1 c2] 24)
  have HX := Aside0.mk (heap_new w2 (.cells #[.int .i64 1, .int .i64 2, .slice A2 1 c2] 24))
  obtain ⟨w3, hw3⟩ : ∃ w3, w3 = w2.alloc (.cells #[.int .i64 1, .int .i64 2, .slice A2 1 c2] 24) := ⟨_, rfl⟩
  rw [← hw3] at hbX HX ⊢
  have B3 := Aside0.mk (below_thenB B2.out hbX B2.out.size)
  have C1c := Aside0.mk (Kd.C_below C1b.out hbX)
  have C2c := Aside0.mk (Kd.C_below C2.out hbX)
  clear hw3 hbX C1b C2
  go_wp2_with fail
  have hA := Decode_calls (some ⟨w3.heap.size, 0, none⟩) 1 [1] (w3.alloc (.cells #[.int .u8 1] 5)) (C_lit w3 [1] (by decide)) (by decide) (by decide) (by intro y hy; simp at hy; omega)
  rw [d3_facts.1, d3_facts.2.1, d3_facts.2.2.1, d3_facts.2.2.2] at hA
  refine hA.mono ?_
  clear hA
  rintro e w4 ⟨v4, e4, rfl, hE, ⟨A4, c4, rfl, -, -⟩, hb⟩
  have hb3 := below_thenB (below_alloc (Below.refl w3.heap.size w3) (.cells #[.int .u8 1] 5)) hb (by simp)
  have B4 := Aside0.mk (below_thenB B3.out hb3 B3.out.size)
  have C1d := Aside0.mk (Kd.C_below C1c.out hb3)
  have C2d := Aside0.mk (Kd.C_below C2c.out hb3)
  have HX4 := Aside0.mk (heap_below ⟨hb3⟩ HX.out)
  have E4 := Aside0.mk (hE.err (by decide))
  obtain ⟨ty4, x4, rfl⟩ := E4.out.iface
  clear hE hb hb3 C1c C2c HX
  go_upto_region 4 with fail
  have hbX := below_alloc (Below.refl w4.heap.size w4) (.cells #[.int .i64 0, .int .i64 0, .slice A4 0 c4] 24)
  obtain ⟨w5, hw5⟩ : ∃ w5, w5 = w4.alloc (.cells #[.int .i64 0, .int .i64 0, .slice A4 0 c4] 24) := ⟨_, rfl⟩
  rw [← hw5] at hbX ⊢
  have hb5 := below_thenB hbX (below_alloc (Below.refl w5.heap.size w5) (.cells #[.int .u8 1, .int .u8 2, .int .u8 3] 5)) hbX.size
  have B5 := Aside0.mk (below_thenB B4.out hb5 B4.out.size)
  have C1e := Aside0.mk (Kd.C_below C1d.out hb5)
  have C2e := Aside0.mk (Kd.C_below C2d.out hb5)
  have HX5 := Aside0.mk (heap_below ⟨hb5⟩ HX4.out)
  have E5 := Aside0.mk (E4.out.below ⟨hb5⟩)
  clear hw5 hbX hb5 C1d C2d HX4 E4
  go_wp2_with fail
  refine (RSeal_calls _ 3 [1, 2, 3] _ (C_lit w5 [1, 2, 3] (by decide)) (by decide) (by decide)).mono ?_
  rintro e w6 ⟨v6, rfl, hR, hb⟩
  have B6 := Aside0.mk (below_thenB B5.out hb B5.out.size)
  have C1f := Aside0.mk (Kd.C_below C1e.out hb)
  have C2f := Aside0.mk (Kd.C_below C2e.out hb)
  have HX6 := Aside0.mk (heap_below ⟨hb⟩ HX5.out)
  have E6 := Aside0.mk (E5.out.below ⟨hb⟩)
  rw [d2_eq] at hR
  have R6 := Aside0.mk hR
  obtain ⟨A6, c6, hv, hc6, hC6⟩ := Kd.R_reads R6.out
  rw [d2_facts.1] at hv hc6 hC6
  subst hv
  have C6 := Aside0.mk hC6
  have D6 := Aside0.mk hc6
  clear hR hb hC6 hc6 R6 C1e C2e HX5 E5
  go_wp2_with fail
  have hA := Decode_calls A6 c6 d2 w6 (by rw [d2_facts.1]; exact C6.out) (by rw [d2_facts.1]; exact D6.out) (by rw [d2_facts.1]; decide) d2_bytes
  rw [d2_facts.2.1, d2_facts.2.2.1, d2_facts.2.2.2.1, d2_facts.2.2.2.2, d2_facts.1] at hA
  refine hA.mono ?_
  clear hA
  rintro e w7 ⟨v7, e7, rfl, hE, ⟨A7, c7, rfl, -, -⟩, hb⟩
  have B7 := Aside0.mk (below_thenB B6.out hb B6.out.size)
  have C1g := Aside0.mk (Kd.C_below C1f.out hb)
  have C2g := Aside0.mk (Kd.C_below C2f.out hb)
  have HX7 := Aside0.mk (heap_below ⟨hb⟩ HX6.out)
  have E7 := Aside0.mk (E6.out.below ⟨hb⟩)
  have F7 := Aside0.mk (hE.err (by decide))
  obtain ⟨ty7, x7, rfl⟩ := F7.out.iface
  clear hE hb C1f C2f HX6 E6
  go_wp2_with fail
  have hbX := below_alloc (Below.refl w7.heap.size w7) (.cells #[.int .i64 0, .int .i64 0, .slice A7 0 c7] 24)
  obtain ⟨w8, hw8⟩ : ∃ w8, w8 = w7.alloc (.cells #[.int .i64 0, .int .i64 0, .slice A7 0 c7] 24) := ⟨_, rfl⟩
  rw [← hw8] at hbX ⊢
  have B8 := Aside0.mk (below_thenB B7.out hbX B7.out.size)
  have C1h := Aside0.mk (Kd.C_below C1g.out hbX)
  have C2h := Aside0.mk (Kd.C_below C2g.out hbX)
  have HX8 := Aside0.mk (heap_below ⟨hbX⟩ HX7.out)
  have E8 := Aside0.mk (E7.out.below ⟨hbX⟩)
  have F8 := Aside0.mk (F7.out.below ⟨hbX⟩)
  clear hw8 hbX C1g C2g HX7 E7 F7
  refine (Encode_calls 0 256 none 0 [] w8 (Kd.C_nil _ _) (by decide) (by decide)).mono ?_
  rintro e w9 ⟨v9, e9, rfl, hE, hR, hb⟩
  have B9 := Aside0.mk (below_thenB B8.out hb B8.out.size)
  have C1i := Aside0.mk (Kd.C_below C1h.out hb)
  have C2i := Aside0.mk (Kd.C_below C2h.out hb)
  have HX9 := Aside0.mk (heap_below ⟨hb⟩ HX8.out)
  have E9 := Aside0.mk (E8.out.below ⟨hb⟩)
  have F9 := Aside0.mk (F8.out.below ⟨hb⟩)
  have G9 : Aside0 (ErrP w9 1 [sPlace] e9) := Aside0.mk (hE.err (by decide))
  obtain ⟨ty9, x9, rfl⟩ := G9.out.iface
  obtain ⟨A9, c9, rfl, -, -⟩ := Kd.R_reads hR
  clear hE hR hb C1h C2h HX8 E8 F8
  go_upto_region 6 with fail
  have HSK : Aside0 (∀ W, Below w9.heap.size w9 W → (fun W => (convert 22 9 (.slice A1 6 c1)).run Tryd.prog W = .ok (.string (strOfNums d1)) W ∧ W.cell? ⟨w2.heap.size, 0, none⟩ = some (.int .i64 1) ∧ W.cell? ⟨w2.heap.size, 1, none⟩ = some (.int .i64 2) ∧ W.cell? ⟨w2.heap.size, 2, none⟩ = some (.slice A2 1 c2)) W) := ⟨fun W hW => ⟨Kd.C_string (P := Tryd.prog) (src := 22) (dst := 9) (e := 5) (c := c1) Tryd.underlying22 Tryd.underlying5 Tryd.underlying9 (Kd.C_below C1i.out hW), pw_cell_below hW (cell_of_heap HX9.out 0), pw_cell_below hW (cell_of_heap HX9.out 1), pw_cell_below hW (cell_of_heap HX9.out 2)⟩⟩
  refine wp_region_held_drew (S := (fun W => (convert 22 9 (.slice A1 6 c1)).run Tryd.prog W = .ok (.string (strOfNums d1)) W ∧ W.cell? ⟨w2.heap.size, 0, none⟩ = some (.int .i64 1) ∧ W.cell? ⟨w2.heap.size, 1, none⟩ = some (.int .i64 2) ∧ W.cell? ⟨w2.heap.size, 2, none⟩ = some (.slice A2 1 c2))) (by kernel_rfl) ?_ (fun hHeld => ?_)
  · exact HSK.out _ (below_drew (Below.refl _ _))
  refine wpAnyH_take (i := 0) (oi := { dst := some 38, op := Go.Op.move (Go.Operand.tmp 2), type := 27, pos := "law.go:19", after := #[], guard := none }) (v := ?vz0) rfl (by kernel_rfl) (by kernel_rfl) (by kernel_rfl) (fun _ _ _ h => h) (Or.inl ⟨by rfl, ?yz0⟩) (by assumption) ?rz0
  case yz0 => ((intro w hSw; (try dsimp only at hSw); go_simp) <;> with_reducible rfl)
  try simp only [Act.put, List.setIfInBounds_toArray, List.set_cons_zero, List.set_cons_succ]
  refine wpAnyH_take (i := 1) (oi := { dst := some 39, op := Go.Op.binOp Go.BinOp.eql 27 (Go.Operand.tmp 38) (Go.Operand.const Go.Value.nilIface) 27, type := 4, pos := "law.go:19", after := #[{ on := 0, ground := Go.Ground.data }], guard := none }) (v := ?vz1) rfl (by kernel_rfl) (by kernel_rfl) (by kernel_rfl) (fun _ _ _ h => h) (Or.inl ⟨by rfl, ?yz1⟩) (by assumption) ?rz1
  case yz1 => ((intro w hSw; (try dsimp only at hSw); go_simp) <;> with_reducible rfl)
  try simp only [Act.put, List.setIfInBounds_toArray, List.set_cons_zero, List.set_cons_succ]
  refine wpAnyH_take (i := 2) (oi := { dst := some 40, op := Go.Op.move (Go.Operand.tmp 39), type := 4, pos := "law.go:19", after := #[{ on := 1, ground := Go.Ground.data }], guard := none }) (v := ?vz2) rfl (by kernel_rfl) (by kernel_rfl) (by kernel_rfl) (fun _ _ _ h => h) (Or.inl ⟨by rfl, ?yz2⟩) (by assumption) ?rz2
  case yz2 => ((intro w hSw; (try dsimp only at hSw); go_simp) <;> with_reducible rfl)
  try simp only [Act.put, List.setIfInBounds_toArray, List.set_cons_zero, List.set_cons_succ]
  refine wpAnyH_take (i := 3) (oi := { dst := some 41, op := Go.Op.move (Go.Operand.tmp 1), type := 22, pos := "law.go:19", after := #[{ on := 2, ground := Go.Ground.guard }], guard := some (2, true) }) (v := ?vz3) rfl (by kernel_rfl) (by kernel_rfl) (by kernel_rfl) (fun _ _ _ h => h) (Or.inl ⟨by rfl, ?yz3⟩) (by assumption) ?rz3
  case yz3 => ((intro w hSw; (try dsimp only at hSw); go_simp) <;> with_reducible rfl)
  try simp only [Act.put, List.setIfInBounds_toArray, List.set_cons_zero, List.set_cons_succ]
  refine wpAnyH_take (i := 4) (oi := { dst := some 42, op := Go.Op.convert 22 9 (Go.Operand.tmp 41), type := 9, pos := "law.go:19", after := #[{ on := 3, ground := Go.Ground.data }, { on := 2, ground := Go.Ground.guard }], guard := some (2, true) }) (v := ?vz4) rfl (by kernel_rfl) (by kernel_rfl) (by kernel_rfl) (fun _ _ _ h => h) (Or.inl ⟨by rfl, ?yz4⟩) (by assumption) ?rz4
  case yz4 => ((intro w hSw; (try dsimp only at hSw); go_simp) <;> with_reducible rfl)
  try simp only [Act.put, List.setIfInBounds_toArray, List.set_cons_zero, List.set_cons_succ]
  refine wpAnyH_ready (rs := [5]) (by kernel_rfl) (by simp) ?_
  refine AllReadyH.cons (o := { dst := some 43, op := Go.Op.buildSlice 22 4 #[(0, Go.Operand.const (Go.Value.int Go.IntKind.u8 1)), (1, Go.Operand.const (Go.Value.int Go.IntKind.u8 2)), (2, Go.Operand.const (Go.Value.int Go.IntKind.u8 1)), (3, Go.Operand.const (Go.Value.int Go.IntKind.u8 9))], type := 22, pos := "law.go:19", after := #[{ on := 2, ground := Go.Ground.guard }], guard := some (2, true) }) rfl (fun K hK => ?kz5) AllReadyH.nil
  go_simp
  refine hK.out _ _ ?_ (fun hHeld => ?_)
  · exact HSK.out _ (below_drew (below_alloc (Below.refl _ _) _))
  clear hK K
  try simp only [Act.put, List.setIfInBounds_toArray, List.set_cons_zero, List.set_cons_succ]
  refine wpAnyH_ready (rs := [6]) (by kernel_rfl) (by simp) ?_
  refine AllReadyH.cons (o := { dst := some 44, op := Go.Op.call { callee := Go.Callee.value (Go.Operand.func 16), args := #[Go.Operand.tmp 43], argTypes := #[22] }, type := 22, pos := "law.go:19", after := #[{ on := 5, ground := Go.Ground.data }, { on := 2, ground := Go.Ground.chain }, { on := 2, ground := Go.Ground.guard }], guard := some (2, true) }) rfl (fun K hK => ?kz6) AllReadyH.nil
  go_simp
  have hb0 : Below w9.heap.size w9 (w9.alloc (.cells #[.int .u8 1, .int .u8 2, .int .u8 1, .int .u8 9] 5)).drew := below_drew (below_alloc (Below.refl _ _) _)
  refine (RSeal_calls (some ⟨w9.heap.size, 0, none⟩) 4 [1, 2, 1, 9] _ (Kd.C_drew (C_lit w9 [1, 2, 1, 9] (by decide))) (by decide) (by decide)).mono ?_
  rintro e w10 ⟨v10, rfl, hR, hb⟩
  have D10 := Aside0.mk (below_thenB hb0 hb hb0.size)
  rw [← d1_eq] at hR
  have R10 := Aside0.mk hR
  obtain ⟨A10, c10, hv10, -, hC10⟩ := Kd.R_reads R10.out
  rw [d1_facts.1] at hv10 hC10
  subst hv10
  have hcv10 : (convert 22 9 (.slice A10 6 c10)).run Tryd.prog w10 = .ok (.string (strOfNums d1)) w10 := Kd.C_string (P := Tryd.prog) (src := 22) (dst := 9) (e := 5) (c := c10) Tryd.underlying22 Tryd.underlying5 Tryd.underlying9 hC10
  clear hR hb hC10 hb0 R10
  refine hK.out _ _ ?_ (fun hHeld => ?_)
  · exact HSK.out _ D10.out
  clear hK K
  try simp only [Act.put, List.setIfInBounds_toArray, List.set_cons_zero, List.set_cons_succ]
  refine wpAnyH_ready (rs := [7]) (by kernel_rfl) (by simp) ?_
  refine AllReadyH.cons (o := { dst := some 45, op := Go.Op.convert 22 9 (Go.Operand.tmp 44), type := 9, pos := "law.go:19", after := #[{ on := 6, ground := Go.Ground.data }, { on := 2, ground := Go.Ground.guard }], guard := some (2, true) }) rfl (fun K hK => ?kz7) AllReadyH.nil
  go_simp
  refine hK.out _ _ ?_ (fun hHeld => ?_)
  · exact HSK.out _ D10.out
  clear hK K
  try simp only [Act.put, List.setIfInBounds_toArray, List.set_cons_zero, List.set_cons_succ]
  refine wpAnyH_take (i := 8) (oi := { dst := some 46, op := Go.Op.binOp Go.BinOp.eql 9 (Go.Operand.tmp 42) (Go.Operand.tmp 45) 9, type := 4, pos := "law.go:19", after := #[{ on := 4, ground := Go.Ground.data }, { on := 7, ground := Go.Ground.data }, { on := 2, ground := Go.Ground.guard }], guard := some (2, true) }) (v := ?vz8) rfl (by kernel_rfl) (by kernel_rfl) (by kernel_rfl) (fun _ _ _ h => h) (Or.inl ⟨by rfl, ?yz8⟩) (by assumption) ?rz8
  case yz8 => ((intro w hSw; (try dsimp only at hSw); go_simp) <;> with_reducible rfl)
  try simp only [Act.put, List.setIfInBounds_toArray, List.set_cons_zero, List.set_cons_succ]
  refine wpAnyH_take (i := 9) (oi := { dst := some 47, op := Go.Op.pick (Go.Operand.tmp 40) (Go.Operand.tmp 46) (Go.Operand.const (Go.Value.bool false)), type := 4, pos := "law.go:19", after := #[{ on := 2, ground := Go.Ground.data }, { on := 8, ground := Go.Ground.data }], guard := none }) (v := ?vz9) rfl (by kernel_rfl) (by kernel_rfl) (by kernel_rfl) (fun _ _ _ h => h) (Or.inl ⟨by rfl, ?yz9⟩) (by assumption) ?rz9
  case yz9 => ((intro w hSw; (try dsimp only at hSw); go_simp) <;> with_reducible rfl)
  try simp only [Act.put, List.setIfInBounds_toArray, List.set_cons_zero, List.set_cons_succ]
  refine wpAnyH_take (i := 10) (oi := { dst := some 48, op := Go.Op.move (Go.Operand.tmp 47), type := 4, pos := "law.go:19", after := #[{ on := 9, ground := Go.Ground.data }, { on := 6, ground := Go.Ground.chain }], guard := none }) (v := ?vz10) rfl (by kernel_rfl) (by kernel_rfl) (by kernel_rfl) (fun _ _ _ h => h) (Or.inl ⟨by rfl, ?yz10⟩) (by assumption) ?rz10
  case yz10 => ((intro w hSw; (try dsimp only at hSw); go_simp) <;> with_reducible rfl)
  try simp only [Act.put, List.setIfInBounds_toArray, List.set_cons_zero, List.set_cons_succ]
  refine wpAnyH_take (i := 11) (oi := { dst := some 49, op := Go.Op.move (Go.Operand.tmp 4), type := 27, pos := "law.go:19", after := #[{ on := 10, ground := Go.Ground.guard }], guard := some (10, true) }) (v := ?vz11) rfl (by kernel_rfl) (by kernel_rfl) (by kernel_rfl) (fun _ _ _ h => h) (Or.inl ⟨by rfl, ?yz11⟩) (by assumption) ?rz11
  case yz11 => ((intro w hSw; (try dsimp only at hSw); go_simp) <;> with_reducible rfl)
  try simp only [Act.put, List.setIfInBounds_toArray, List.set_cons_zero, List.set_cons_succ]
  refine wpAnyH_take (i := 12) (oi := { dst := some 50, op := Go.Op.binOp Go.BinOp.eql 27 (Go.Operand.tmp 49) (Go.Operand.const Go.Value.nilIface) 27, type := 4, pos := "law.go:19", after := #[{ on := 11, ground := Go.Ground.data }, { on := 10, ground := Go.Ground.guard }], guard := some (10, true) }) (v := ?vz12) rfl (by kernel_rfl) (by kernel_rfl) (by kernel_rfl) (fun _ _ _ h => h) (Or.inl ⟨by rfl, ?yz12⟩) (by assumption) ?rz12
  case yz12 => ((intro w hSw; (try dsimp only at hSw); go_simp) <;> with_reducible rfl)
  try simp only [Act.put, List.setIfInBounds_toArray, List.set_cons_zero, List.set_cons_succ]
  refine wpAnyH_take (i := 13) (oi := { dst := some 51, op := Go.Op.pick (Go.Operand.tmp 48) (Go.Operand.tmp 50) (Go.Operand.const (Go.Value.bool false)), type := 4, pos := "law.go:19", after := #[{ on := 10, ground := Go.Ground.data }, { on := 12, ground := Go.Ground.data }], guard := none }) (v := ?vz13) rfl (by kernel_rfl) (by kernel_rfl) (by kernel_rfl) (fun _ _ _ h => h) (Or.inl ⟨by rfl, ?yz13⟩) (by assumption) ?rz13
  case yz13 => ((intro w hSw; (try dsimp only at hSw); go_simp) <;> with_reducible rfl)
  try simp only [Act.put, List.setIfInBounds_toArray, List.set_cons_zero, List.set_cons_succ]
  refine wpAnyH_take (i := 14) (oi := { dst := some 52, op := Go.Op.move (Go.Operand.tmp 51), type := 4, pos := "law.go:19", after := #[{ on := 13, ground := Go.Ground.data }, { on := 10, ground := Go.Ground.chain }], guard := none }) (v := ?vz14) rfl (by kernel_rfl) (by kernel_rfl) (by kernel_rfl) (fun _ _ _ h => h) (Or.inl ⟨by rfl, ?yz14⟩) (by assumption) ?rz14
  case yz14 => ((intro w hSw; (try dsimp only at hSw); go_simp) <;> with_reducible rfl)
  try simp only [Act.put, List.setIfInBounds_toArray, List.set_cons_zero, List.set_cons_succ]
  refine wpAnyH_take (i := 15) (oi := { dst := some 53, op := Go.Op.load 24 (Go.Operand.tmp 3), type := 24, pos := "law.go:19", after := #[{ on := 14, ground := Go.Ground.guard }], guard := some (14, true) }) (v := ?vz15) rfl (by kernel_rfl) (by kernel_rfl) (by kernel_rfl) (fun _ _ _ h => h) (Or.inl ⟨by rfl, ?yz15⟩) (by assumption) ?rz15
  case yz15 => ((intro w hSw; (try dsimp only at hSw); go_simp) <;> with_reducible rfl)
  try simp only [Act.put, List.setIfInBounds_toArray, List.set_cons_zero, List.set_cons_succ]
  refine wpAnyH_ready (rs := [16]) (by kernel_rfl) (by simp) ?_
  refine AllReadyH.cons (o := { dst := some 54, op := Go.Op.buildSlice 22 1 #[(0, Go.Operand.const (Go.Value.int Go.IntKind.u8 9))], type := 22, pos := "law.go:19", after := #[{ on := 14, ground := Go.Ground.guard }], guard := some (14, true) }) rfl (fun K hK => ?kz16) AllReadyH.nil
  go_simp
  refine hK.out _ _ ?_ (fun hHeld => ?_)
  · exact HSK.out _ (below_thenB D10.out (below_alloc (Below.refl _ _) _) D10.out.size)
  clear hK K
  try simp only [Act.put, List.setIfInBounds_toArray, List.set_cons_zero, List.set_cons_succ]
  refine wpAnyH_take (i := 17) (oi := { dst := some 55, op := Go.Op.build 24 #[(0, Go.Operand.const (Go.Value.int Go.IntKind.i64 1)), (1, Go.Operand.const (Go.Value.int Go.IntKind.i64 2)), (2, Go.Operand.tmp 54)], type := 24, pos := "law.go:19", after := #[{ on := 16, ground := Go.Ground.data }, { on := 14, ground := Go.Ground.guard }], guard := some (14, true) }) (v := ?vz17) rfl (by kernel_rfl) (by kernel_rfl) (by kernel_rfl) (fun _ _ _ h => h) (Or.inl ⟨by rfl, ?yz17⟩) (by assumption) ?rz17
  case yz17 => ((intro w hSw; (try dsimp only at hSw); go_simp) <;> with_reducible rfl)
  try simp only [Act.put, List.setIfInBounds_toArray, List.set_cons_zero, List.set_cons_succ]
  refine wpAnyH_ready (rs := [18]) (by kernel_rfl) (by simp) ?_
  refine AllReadyH.cons (o := { dst := some 56, op := Go.Op.call { callee := Go.Callee.value (Go.Operand.func 15), args := #[Go.Operand.tmp 53, Go.Operand.tmp 55], argTypes := #[24, 24] }, type := 4, pos := "law.go:19", after := #[{ on := 15, ground := Go.Ground.data }, { on := 17, ground := Go.Ground.data }, { on := 14, ground := Go.Ground.chain }, { on := 14, ground := Go.Ground.guard }], guard := some (14, true) }) rfl (fun K hK => ?kz18) AllReadyH.nil
  go_simp
  have hb1 : Below w10.heap.size w10 (w10.alloc (.cells #[.int .u8 9] 5)) := below_alloc (Below.refl _ _) _
  refine (PFrameCodes.crossbuckref06_Same.calls 1 2 A2 c2 [9] 1 2 (some ⟨w10.heap.size, 0, none⟩) 1 [9] true _ (Kd.C_below (Kd.C_below C2i.out D10.out) hb1) D2.out (C_lit w10 [9] (by decide)) (by decide) (by simp [PFrameCodes.crossbuckref06_Same.f])).mono ?_
  rintro e w11 ⟨rfl, hb⟩
  have D11 := Aside0.mk (below_thenB D10.out (below_thenB hb1 hb hb1.size) D10.out.size)
  clear hb hb1
  refine hK.out _ _ ?_ (fun hHeld => ?_)
  · exact HSK.out _ D11.out
  clear hK K
  try simp only [Act.put, List.setIfInBounds_toArray, List.set_cons_zero, List.set_cons_succ]
  refine wpAnyH_take (i := 19) (oi := { dst := some 57, op := Go.Op.pick (Go.Operand.tmp 52) (Go.Operand.tmp 56) (Go.Operand.const (Go.Value.bool false)), type := 4, pos := "law.go:19", after := #[{ on := 14, ground := Go.Ground.data }, { on := 18, ground := Go.Ground.data }], guard := none }) (v := ?vz19) rfl (by kernel_rfl) (by kernel_rfl) (by kernel_rfl) (fun _ _ _ h => h) (Or.inl ⟨by rfl, ?yz19⟩) (by assumption) ?rz19
  case yz19 => ((intro w hSw; (try dsimp only at hSw); go_simp) <;> with_reducible rfl)
  try simp only [Act.put, List.setIfInBounds_toArray, List.set_cons_zero, List.set_cons_succ]
  refine wpAnyH_take (i := 20) (oi := { dst := some 58, op := Go.Op.move (Go.Operand.tmp 57), type := 4, pos := "law.go:19", after := #[{ on := 19, ground := Go.Ground.data }, { on := 18, ground := Go.Ground.chain }], guard := none }) (v := ?vz20) rfl (by kernel_rfl) (by kernel_rfl) (by kernel_rfl) (fun _ _ _ h => h) (Or.inl ⟨by rfl, ?yz20⟩) (by assumption) ?rz20
  case yz20 => ((intro w hSw; (try dsimp only at hSw); go_simp) <;> with_reducible rfl)
  try simp only [Act.put, List.setIfInBounds_toArray, List.set_cons_zero, List.set_cons_succ]
  refine wpAnyH_take (i := 21) (oi := { dst := some 59, op := Go.Op.move (Go.Operand.tmp 6), type := 27, pos := "law.go:19", after := #[{ on := 20, ground := Go.Ground.guard }], guard := some (20, true) }) (v := ?vz21) rfl (by kernel_rfl) (by kernel_rfl) (by kernel_rfl) (fun _ _ _ h => h) (Or.inl ⟨by rfl, ?yz21⟩) (by assumption) ?rz21
  case yz21 => ((intro w hSw; (try dsimp only at hSw); go_simp) <;> with_reducible rfl)
  try simp only [Act.put, List.setIfInBounds_toArray, List.set_cons_zero, List.set_cons_succ]
  refine wpAnyH_ready (rs := [22]) (by kernel_rfl) (by simp) ?_
  refine AllReadyH.cons (o := { dst := some 60, op := Go.Op.call { callee := Go.Callee.value (Go.Operand.func 14), args := #[Go.Operand.tmp 59], argTypes := #[27] }, type := 30, pos := "law.go:19", after := #[{ on := 21, ground := Go.Ground.data }, { on := 20, ground := Go.Ground.chain }, { on := 20, ground := Go.Ground.guard }], guard := some (20, true) }) rfl (fun K hK => ?kz22) AllReadyH.nil
  go_simp
  refine (code_err _ _ 3 w11 (HG.out.below ⟨below_thenB B9.out D11.out B9.out.size⟩) (E9.out.below D11)).mono ?_
  rintro e w12 ⟨rfl, hb⟩
  have D12 := Aside0.mk (below_thenB D11.out hb D11.out.size)
  clear hb
  refine hK.out _ _ ?_ (fun hHeld => ?_)
  · exact HSK.out _ D12.out
  clear hK K
  try simp only [Act.put, List.setIfInBounds_toArray, List.set_cons_zero, List.set_cons_succ]
  refine wpAnyH_take (i := 23) (oi := { dst := some 61, op := Go.Op.binOp Go.BinOp.eql 30 (Go.Operand.tmp 60) (Go.Operand.const (Go.Value.int Go.IntKind.i64 3)) 30, type := 4, pos := "law.go:19", after := #[{ on := 22, ground := Go.Ground.data }, { on := 20, ground := Go.Ground.guard }], guard := some (20, true) }) (v := ?vz23) rfl (by kernel_rfl) (by kernel_rfl) (by kernel_rfl) (fun _ _ _ h => h) (Or.inl ⟨by rfl, ?yz23⟩) (by assumption) ?rz23
  case yz23 => ((intro w hSw; (try dsimp only at hSw); go_simp) <;> with_reducible rfl)
  try simp only [Act.put, List.setIfInBounds_toArray, List.set_cons_zero, List.set_cons_succ]
  refine wpAnyH_take (i := 24) (oi := { dst := some 62, op := Go.Op.pick (Go.Operand.tmp 58) (Go.Operand.tmp 61) (Go.Operand.const (Go.Value.bool false)), type := 4, pos := "law.go:19", after := #[{ on := 20, ground := Go.Ground.data }, { on := 23, ground := Go.Ground.data }], guard := none }) (v := ?vz24) rfl (by kernel_rfl) (by kernel_rfl) (by kernel_rfl) (fun _ _ _ h => h) (Or.inl ⟨by rfl, ?yz24⟩) (by assumption) ?rz24
  case yz24 => ((intro w hSw; (try dsimp only at hSw); go_simp) <;> with_reducible rfl)
  try simp only [Act.put, List.setIfInBounds_toArray, List.set_cons_zero, List.set_cons_succ]
  refine wpAnyH_take (i := 25) (oi := { dst := some 63, op := Go.Op.move (Go.Operand.tmp 62), type := 4, pos := "law.go:19", after := #[{ on := 24, ground := Go.Ground.data }, { on := 22, ground := Go.Ground.chain }], guard := none }) (v := ?vz25) rfl (by kernel_rfl) (by kernel_rfl) (by kernel_rfl) (fun _ _ _ h => h) (Or.inl ⟨by rfl, ?yz25⟩) (by assumption) ?rz25
  case yz25 => ((intro w hSw; (try dsimp only at hSw); go_simp) <;> with_reducible rfl)
  try simp only [Act.put, List.setIfInBounds_toArray, List.set_cons_zero, List.set_cons_succ]
  refine wpAnyH_take (i := 26) (oi := { dst := some 64, op := Go.Op.move (Go.Operand.tmp 8), type := 27, pos := "law.go:19", after := #[{ on := 25, ground := Go.Ground.guard }], guard := some (25, true) }) (v := ?vz26) rfl (by kernel_rfl) (by kernel_rfl) (by kernel_rfl) (fun _ _ _ h => h) (Or.inl ⟨by rfl, ?yz26⟩) (by assumption) ?rz26
  case yz26 => ((intro w hSw; (try dsimp only at hSw); go_simp) <;> with_reducible rfl)
  try simp only [Act.put, List.setIfInBounds_toArray, List.set_cons_zero, List.set_cons_succ]
  refine wpAnyH_ready (rs := [27]) (by kernel_rfl) (by simp) ?_
  refine AllReadyH.cons (o := { dst := some 65, op := Go.Op.call { callee := Go.Callee.value (Go.Operand.func 14), args := #[Go.Operand.tmp 64], argTypes := #[27] }, type := 30, pos := "law.go:19", after := #[{ on := 26, ground := Go.Ground.data }, { on := 25, ground := Go.Ground.chain }, { on := 25, ground := Go.Ground.guard }], guard := some (25, true) }) rfl (fun K hK => ?kz27) AllReadyH.nil
  go_simp
  refine (code_err _ _ 2 w12 (HG.out.below ⟨below_thenB B9.out D12.out B9.out.size⟩) (F9.out.below D12)).mono ?_
  rintro e w13 ⟨rfl, hb⟩
  have D13 := Aside0.mk (below_thenB D12.out hb D12.out.size)
  clear hb
  refine hK.out _ _ ?_ (fun hHeld => ?_)
  · exact HSK.out _ D13.out
  clear hK K
  try simp only [Act.put, List.setIfInBounds_toArray, List.set_cons_zero, List.set_cons_succ]
  refine wpAnyH_take (i := 28) (oi := { dst := some 66, op := Go.Op.binOp Go.BinOp.eql 30 (Go.Operand.tmp 65) (Go.Operand.const (Go.Value.int Go.IntKind.i64 2)) 30, type := 4, pos := "law.go:19", after := #[{ on := 27, ground := Go.Ground.data }, { on := 25, ground := Go.Ground.guard }], guard := some (25, true) }) (v := ?vz28) rfl (by kernel_rfl) (by kernel_rfl) (by kernel_rfl) (fun _ _ _ h => h) (Or.inl ⟨by rfl, ?yz28⟩) (by assumption) ?rz28
  case yz28 => ((intro w hSw; (try dsimp only at hSw); go_simp) <;> with_reducible rfl)
  try simp only [Act.put, List.setIfInBounds_toArray, List.set_cons_zero, List.set_cons_succ]
  refine wpAnyH_take (i := 29) (oi := { dst := some 67, op := Go.Op.pick (Go.Operand.tmp 63) (Go.Operand.tmp 66) (Go.Operand.const (Go.Value.bool false)), type := 4, pos := "law.go:19", after := #[{ on := 25, ground := Go.Ground.data }, { on := 28, ground := Go.Ground.data }], guard := none }) (v := ?vz29) rfl (by kernel_rfl) (by kernel_rfl) (by kernel_rfl) (fun _ _ _ h => h) (Or.inl ⟨by rfl, ?yz29⟩) (by assumption) ?rz29
  case yz29 => ((intro w hSw; (try dsimp only at hSw); go_simp) <;> with_reducible rfl)
  try simp only [Act.put, List.setIfInBounds_toArray, List.set_cons_zero, List.set_cons_succ]
  refine wpAnyH_take (i := 30) (oi := { dst := some 68, op := Go.Op.move (Go.Operand.tmp 67), type := 4, pos := "law.go:19", after := #[{ on := 29, ground := Go.Ground.data }, { on := 27, ground := Go.Ground.chain }], guard := none }) (v := ?vz30) rfl (by kernel_rfl) (by kernel_rfl) (by kernel_rfl) (fun _ _ _ h => h) (Or.inl ⟨by rfl, ?yz30⟩) (by assumption) ?rz30
  case yz30 => ((intro w hSw; (try dsimp only at hSw); go_simp) <;> with_reducible rfl)
  try simp only [Act.put, List.setIfInBounds_toArray, List.set_cons_zero, List.set_cons_succ]
  refine wpAnyH_take (i := 31) (oi := { dst := some 69, op := Go.Op.move (Go.Operand.tmp 10), type := 27, pos := "law.go:19", after := #[{ on := 30, ground := Go.Ground.guard }], guard := some (30, true) }) (v := ?vz31) rfl (by kernel_rfl) (by kernel_rfl) (by kernel_rfl) (fun _ _ _ h => h) (Or.inl ⟨by rfl, ?yz31⟩) (by assumption) ?rz31
  case yz31 => ((intro w hSw; (try dsimp only at hSw); go_simp) <;> with_reducible rfl)
  try simp only [Act.put, List.setIfInBounds_toArray, List.set_cons_zero, List.set_cons_succ]
  refine wpAnyH_ready (rs := [32]) (by kernel_rfl) (by simp) ?_
  refine AllReadyH.cons (o := { dst := some 70, op := Go.Op.call { callee := Go.Callee.value (Go.Operand.func 14), args := #[Go.Operand.tmp 69], argTypes := #[27] }, type := 30, pos := "law.go:19", after := #[{ on := 31, ground := Go.Ground.data }, { on := 30, ground := Go.Ground.chain }, { on := 30, ground := Go.Ground.guard }], guard := some (30, true) }) rfl (fun K hK => ?kz32) AllReadyH.nil
  go_simp
  refine (code_err _ _ 1 w13 (HG.out.below ⟨below_thenB B9.out D13.out B9.out.size⟩) (G9.out.below D13)).mono ?_
  rintro e w14 ⟨rfl, hb⟩
  have D32 := Aside0.mk (below_thenB D13.out hb D13.out.size)
  clear hb
  refine hK.out _ _ ?_ (fun hHeld => ?_)
  · exact HSK.out _ D32.out
  clear hK K
  try simp only [Act.put, List.setIfInBounds_toArray, List.set_cons_zero, List.set_cons_succ]
  refine wpAnyH_take (i := 33) (oi := { dst := some 71, op := Go.Op.binOp Go.BinOp.eql 30 (Go.Operand.tmp 70) (Go.Operand.const (Go.Value.int Go.IntKind.i64 1)) 30, type := 4, pos := "law.go:19", after := #[{ on := 32, ground := Go.Ground.data }, { on := 30, ground := Go.Ground.guard }], guard := some (30, true) }) (v := ?vz33) rfl (by kernel_rfl) (by kernel_rfl) (by kernel_rfl) (fun _ _ _ h => h) (Or.inl ⟨by rfl, ?yz33⟩) (by assumption) ?rz33
  case yz33 => ((intro w hSw; (try dsimp only at hSw); go_simp) <;> with_reducible rfl)
  try simp only [Act.put, List.setIfInBounds_toArray, List.set_cons_zero, List.set_cons_succ]
  refine wpAnyH_take (i := 34) (oi := { dst := some 72, op := Go.Op.pick (Go.Operand.tmp 68) (Go.Operand.tmp 71) (Go.Operand.const (Go.Value.bool false)), type := 4, pos := "law.go:19", after := #[{ on := 30, ground := Go.Ground.data }, { on := 33, ground := Go.Ground.data }], guard := none }) (v := ?vz34) rfl (by kernel_rfl) (by kernel_rfl) (by kernel_rfl) (fun _ _ _ h => h) (Or.inl ⟨by rfl, ?yz34⟩) (by assumption) ?rz34
  case yz34 => ((intro w hSw; (try dsimp only at hSw); go_simp) <;> with_reducible rfl)
  try simp only [Act.put, List.setIfInBounds_toArray, List.set_cons_zero, List.set_cons_succ]
  refine wpAnyH_take (i := 35) (oi := { dst := some 0, op := Go.Op.assign (Go.Operand.tmp 72), type := 4, pos := "law.go:19", after := #[{ on := 34, ground := Go.Ground.data }, { on := 32, ground := Go.Ground.chain }, { on := 0, ground := Go.Ground.phase }, { on := 1, ground := Go.Ground.phase }, { on := 2, ground := Go.Ground.phase }, { on := 3, ground := Go.Ground.phase }, { on := 4, ground := Go.Ground.phase }, { on := 5, ground := Go.Ground.phase }, { on := 6, ground := Go.Ground.phase }, { on := 7, ground := Go.Ground.phase }, { on := 8, ground := Go.Ground.phase }, { on := 9, ground := Go.Ground.phase }, { on := 10, ground := Go.Ground.phase }, { on := 11, ground := Go.Ground.phase }, { on := 12, ground := Go.Ground.phase }, { on := 13, ground := Go.Ground.phase }, { on := 14, ground := Go.Ground.phase }, { on := 15, ground := Go.Ground.phase }, { on := 16, ground := Go.Ground.phase }, { on := 17, ground := Go.Ground.phase }, { on := 18, ground := Go.Ground.phase }, { on := 19, ground := Go.Ground.phase }, { on := 20, ground := Go.Ground.phase }, { on := 21, ground := Go.Ground.phase }, { on := 22, ground := Go.Ground.phase }, { on := 23, ground := Go.Ground.phase }, { on := 24, ground := Go.Ground.phase }, { on := 25, ground := Go.Ground.phase }, { on := 26, ground := Go.Ground.phase }, { on := 27, ground := Go.Ground.phase }, { on := 28, ground := Go.Ground.phase }, { on := 29, ground := Go.Ground.phase }, { on := 30, ground := Go.Ground.phase }, { on := 31, ground := Go.Ground.phase }, { on := 32, ground := Go.Ground.phase }, { on := 33, ground := Go.Ground.phase }, { on := 34, ground := Go.Ground.phase }], guard := none }) (v := ?vz35) rfl (by kernel_rfl) (by kernel_rfl) (by kernel_rfl) (fun _ _ _ h => h) (Or.inl ⟨by rfl, ?yz35⟩) (by assumption) ?rz35
  case yz35 => ((intro w hSw; (try dsimp only at hSw); go_simp) <;> with_reducible rfl)
  try simp only [Act.put, List.setIfInBounds_toArray, List.set_cons_zero, List.set_cons_succ]
  refine wpAnyH_done (by kernel_rfl) ?_ _
  go_wp2_with fail
  go_ret
  exact ⟨rfl, (below_thenB B9.out D32.out B9.out.size)⟩
end Go.Proofs.YtnigocoanlaiiaaDoor.PE

