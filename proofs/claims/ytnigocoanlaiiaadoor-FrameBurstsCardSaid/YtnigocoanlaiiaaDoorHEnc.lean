/- frame: Encode, of the code. -/
import Derived.Test.YtnigocoanlaiiaaDoorHSeal
import Derived.Deep.RegionHeld3
namespace Go.Proofs.YtnigocoanlaiiaaDoor.PE
open Go.RowKit Go.Extern.Stop Go.Stop Go.Extern Go.Proofs.YtnigocoanlaiiaaDoorW.PrintWords Go.Proofs.YtnigocoanlaiiaaDoorW.PrintLast Go.Proofs.YtnigocoanlaiiaaDoorW.PrintMore
set_option linter.unusedVariables false
set_option linter.unusedSimpArgs false
/-- A telegram that may not be encoded. -/
def argF (ch sq : Int) (n : Nat) : Prop := ch < 0 ∨ 15 < ch ∨ sq < 0 ∨ 255 < sq ∨ 16 < n
instance (ch sq : Int) (n : Nat) : Decidable (argF ch sq n) := by unfold argF; infer_instance
/-- A telegram's bytes. -/
def encL (ch sq : Int) (xs : List Int) : List Int := sealL ([ch, sq, (xs.length : Int)] ++ xs)
def encE (ch sq : Int) (n : Nat) : Int := if argF ch sq n then 1 else 0
def encB (ch sq : Int) (xs : List Int) : List Int := if argF ch sq xs.length then [] else encL ch sq xs
theorem head_row {W : World} {g n : Nat} (a b c : Int) (hg : W.heap[g]? = some (.cells (madeCells #[.int .u8 0] (3 + n)) 5 (0, 0))) (hn : n ≤ 1000) :
    Kd.R (Kd.int .u8) 5 (((W.setCell ⟨g, 0, none⟩ (.int .u8 a)).setCell ⟨g, 1, none⟩ (.int .u8 b)).setCell ⟨g, 2, none⟩ (.int .u8 c)) g (fun _ => True) (.slice (some ⟨g, 0, none⟩) 3 (3 + n)) [a, b, c] := by
  have h3 := blk_set (blk_set (blk_set hg 0 (.int .u8 a)) 1 (.int .u8 b)) 2 (.int .u8 c)
  refine ⟨fun _ _ => trivial, [.int .u8 a, .int .u8 b, .int .u8 c], ⟨rfl, .inr ⟨g, 3 + n, _, rfl, Nat.le_refl _, h3, ?_, ?_, ?_, ?_⟩⟩, ⟨rfl, ?_⟩⟩
  · simp
  · simp [maxLen]; omega
  · show _ = (3 + n) * 1; simp [size_madeCells]
  · have hm : (madeCells #[Value.int .u8 0] (3 + n)).toList = List.replicate (3 + n) (Value.int .u8 0) := by
      apply List.ext_getElem
      · simp [madeCells]
      · intro i h1 h2
        simp [madeCells, Nat.mod_one]
    simp only [Array.toList_setIfInBounds, hm]
    rw [show 3 + n = n + 1 + 1 + 1 by omega, List.replicate_succ, List.replicate_succ, List.replicate_succ]
    rfl
  · intro j p hj
    match j with
    | 0 => have : a = p := by simpa using hj
           subst this; rfl
    | 1 => have : b = p := by simpa using hj
           subst this; rfl
    | 2 => have : c = p := by simpa using hj
           subst this; rfl
    | j + 3 => simp at hj
theorem wrap8 (n : Int) : IntKind.u8.wrap n = n % 256 := by simp [IntKind.wrap, IntKind.bits, IntKind.signed]
theorem made_at (n i : Nat) (h : i < 3 + n) : (madeCells #[Value.int .u8 0] (3 + n))[i]? = some (.int .u8 0) := by
  rw [Array.getElem?_eq_getElem (by rw [size_madeCells]; exact h)]
  simp [madeCells, Nat.mod_one]
theorem cell_same_blk2 {W W' : World} {g : Nat} (h : W'.heap[g]? = W.heap[g]?) (k : Nat) : W'.cell? ⟨g, k, none⟩ = W.cell? ⟨g, k, none⟩ := by
  unfold World.cell?; simp only [h]
theorem in_calls (a b : Int) (w : World) : Calls Tryd.prog 17 #[.int .i64 a, .int .i64 b] w fun e w' => e = .returned (.bool (decide (0 ≤ a ∧ a ≤ b))) ∧ Below w.heap.size w w' := by
  refine (PFrameCodes.frame_in.calls a b _ w ?_).mono (fun _ _ h => ⟨h.1, h.2.below⟩)
  unfold PFrameCodes.frame_in.f
  by_cases h : a ≥ 0
  · rw [if_pos h]
    by_cases h2 : a ≤ b
    · rw [decide_eq_true h2, decide_eq_true (And.intro h h2)]
    · rw [decide_eq_false h2, decide_eq_false (fun x => h2 x.2)]
  · rw [if_neg h, decide_eq_false (fun x => h x.1)]
set_option maxHeartbeats 16000000 in
set_option maxRecDepth 100000 in
theorem Encode_calls (ch sq : Int) (A : Option Addr) (cap : Nat) (xs : List Int) (w : World) (hC : Kd.C (Kd.int .u8) w A xs.length xs) (hc : xs.length ≤ cap) (hx : xs.length ≤ 300) :
    Calls Tryd.prog 10 #[.agg #[.int .i64 ch, .int .i64 sq, .slice A xs.length cap]] w fun e w' => ∃ v e0, e = .returned (.tuple #[v, e0]) ∧ ErrV w' (encE ch sq xs.length) e0 ∧ Kd.R (Kd.int .u8) 5 w' w.heap.size (fun _ => True) v (encB ch sq xs) ∧ Below w.heap.size w w' := by
  have B0 : Aside0 (Below w.heap.size w (w.alloc (.cells #[.int .i64 ch, .int .i64 sq, .slice A xs.length cap] 24))) := balloc ⟨Below.refl _ _⟩ _
  have HX0 := Aside0.mk (heap_new w (.cells #[.int .i64 ch, .int .i64 sq, .slice A xs.length cap] 24))
  have HC := Aside0.mk hC
  have HN := Aside0.mk hx
  clear hC
  have bad : argF ch sq xs.length → Calls Tryd.prog 10 #[.agg #[.int .i64 ch, .int .i64 sq, .slice A xs.length cap]] w fun e w' => ∃ v e0, e = .returned (.tuple #[v, e0]) ∧ ErrP w' 1 [sPlace] e0 ∧ v = .slice none 0 0 ∧ Below w.heap.size w w' := by
    intro ha
    by_cases h1 : 0 ≤ ch ∧ ch ≤ 15
    · by_cases h2 : 0 ≤ sq ∧ sq ≤ 255
      · have h3 : decide (16 < (xs.length : Int)) = true := decide_eq_true (by unfold argF at ha; omega)
        go_enter Tryd.func10, Tryd.ntmps10
        go_wp2_with fail
        refine (in_calls ch 15 _).mono ?_
        rintro e w1 ⟨rfl, hb⟩
        have B1 := Aside0.mk (below_thenB B0.out hb B0.out.size)
        have HX1 := Aside0.mk (heap_below ⟨hb⟩ HX0.out)
        have q1 : World.cell? w1 ⟨w.heap.size, 1, none⟩ = some (.int .i64 sq) := cell_of_heap HX1.out 1
        rw [decide_eq_true h1]
        clear hb
        go_wp2_with fail
        refine (in_calls sq 255 _).mono ?_
        rintro e w2 ⟨rfl, hb⟩
        have B2 := Aside0.mk (below_thenB B1.out hb B1.out.size)
        have HX2 := Aside0.mk (heap_below ⟨hb⟩ HX1.out)
        have q2 : World.cell? w2 ⟨w.heap.size, 2, none⟩ = some (.slice A xs.length cap) := cell_of_heap HX2.out 2
        rw [decide_eq_true h2]
        clear hb q1
        go_wp2_with fail
        refine (new_err 1 sPlace _ (by decide)).mono ?_
        rintro e w3 ⟨v3, rfl, hE, hb⟩
        have B3 := Aside0.mk (below_thenB B2.out hb B2.out.size)
        have HE := Aside0.mk hE
        clear hb hE q2
        go_wp2_with fail
        go_ret2
        exact ⟨_, _, rfl, HE.out, rfl, B3.out⟩
      · go_enter Tryd.func10, Tryd.ntmps10
        go_wp2_with fail
        refine (in_calls ch 15 _).mono ?_
        rintro e w1 ⟨rfl, hb⟩
        have B1 := Aside0.mk (below_thenB B0.out hb B0.out.size)
        have HX1 := Aside0.mk (heap_below ⟨hb⟩ HX0.out)
        have q1 : World.cell? w1 ⟨w.heap.size, 1, none⟩ = some (.int .i64 sq) := cell_of_heap HX1.out 1
        rw [decide_eq_true h1]
        clear hb
        go_wp2_with fail
        refine (in_calls sq 255 _).mono ?_
        rintro e w2 ⟨rfl, hb⟩
        have B2 := Aside0.mk (below_thenB B1.out hb B1.out.size)
        rw [decide_eq_false h2]
        clear hb q1
        go_wp2_with fail
        refine (new_err 1 sPlace _ (by decide)).mono ?_
        rintro e w3 ⟨v3, rfl, hE, hb⟩
        have B3 := Aside0.mk (below_thenB B2.out hb B2.out.size)
        have HE := Aside0.mk hE
        clear hb hE
        go_wp2_with fail
        go_ret2
        exact ⟨_, _, rfl, HE.out, rfl, B3.out⟩
    · go_enter Tryd.func10, Tryd.ntmps10
      go_wp2_with fail
      refine (in_calls ch 15 _).mono ?_
      rintro e w1 ⟨rfl, hb⟩
      have B1 := Aside0.mk (below_thenB B0.out hb B0.out.size)
      rw [decide_eq_false h1]
      clear hb
      go_wp2_with fail
      refine (new_err 1 sPlace _ (by decide)).mono ?_
      rintro e w3 ⟨v3, rfl, hE, hb⟩
      have B3 := Aside0.mk (below_thenB B1.out hb B1.out.size)
      have HE := Aside0.mk hE
      clear hb hE
      go_wp2_with fail
      go_ret2
      exact ⟨_, _, rfl, HE.out, rfl, B3.out⟩
  by_cases ha : argF ch sq xs.length
  · have e1 : encE ch sq xs.length = 1 := if_pos ha
    have e2 : encB ch sq xs = [] := if_pos ha
    rw [e1, e2]
    refine (bad ha).mono ?_
    rintro e w' ⟨v, e0, rfl, hE, rfl, hb⟩
    exact ⟨_, e0, rfl, .inr ⟨by decide, hE⟩, Kd.R_nil _ _ _ _ _, hb⟩
  clear bad
  have HE := Aside0.mk (show encE ch sq xs.length = 0 ∧ encB ch sq xs = encL ch sq xs from ⟨if_neg ha, if_neg ha⟩)
  have h1 : 0 ≤ ch ∧ ch ≤ 15 := by unfold argF at ha; omega
  have h2 : 0 ≤ sq ∧ sq ≤ 255 := by unfold argF at ha; omega
  have h3 : decide (16 < (xs.length : Int)) = false := decide_eq_false (by unfold argF at ha; omega)
  have HM := Aside0.mk (show ch % 256 = ch ∧ sq % 256 = sq ∧ (xs.length : Int) % 256 = xs.length ∧ xs.length ≤ 16 by unfold argF at ha; omega)
  clear ha
  have HW := Aside0.mk (show wrap64 (3 + (xs.length : Int)) = 3 + xs.length by unfold wrap64; omega)
  go_enter Tryd.func10, Tryd.ntmps10
  go_wp2_with fail
  refine (in_calls ch 15 _).mono ?_
  rintro e w1 ⟨rfl, hb⟩
  have B1 := Aside0.mk (below_thenB B0.out hb B0.out.size)
  have HX1 := Aside0.mk (heap_below ⟨hb⟩ HX0.out)
  have q1 : World.cell? w1 ⟨w.heap.size, 1, none⟩ = some (.int .i64 sq) := cell_of_heap HX1.out 1
  rw [decide_eq_true h1]
  clear hb
  go_wp2_with fail
  refine (in_calls sq 255 _).mono ?_
  rintro e w2 ⟨rfl, hb⟩
  have B2 := Aside0.mk (below_thenB B1.out hb B1.out.size)
  have HX2 := Aside0.mk (heap_below ⟨hb⟩ HX1.out)
  have q2 : World.cell? w2 ⟨w.heap.size, 2, none⟩ = some (.slice A xs.length cap) := cell_of_heap HX2.out 2
  rw [decide_eq_true h2]
  clear hb q1
  have hw := HW.out
  have hmk : ∀ W : World, (Instr.makeSlice 22 (.int .i64 3) (.int .i64 (3 + (xs.length : Int)))).run Tryd.prog W = .ok (.slice (some ⟨W.heap.size, 0, none⟩) 3 (3 + xs.length)) (W.alloc (.cells (madeCells #[.int .u8 0] (3 + xs.length)) 5)) := fun W => make_cap 3 (3 + xs.length) (by omega) (by have := HN.out; omega) W
  go_upto_region 4 with fail
  clear hw hmk q2
  have HB3 := heap_new w2 (.cells (madeCells #[.int .u8 0] (3 + xs.length)) 5)
  have BX := below_alloc (Below.refl w2.heap.size w2) (.cells (madeCells #[.int .u8 0] (3 + xs.length)) 5)
  obtain ⟨W3, hW⟩ : ∃ W3, W3 = w2.alloc (.cells (madeCells #[.int .u8 0] (3 + xs.length)) 5) := ⟨_, rfl⟩
  rw [← hW] at HB3 BX ⊢
  clear hW
  have B3 := Aside0.mk (below_thenB B2.out BX B2.out.size)
  have HX3 := Aside0.mk (heap_below ⟨BX⟩ HX2.out)
  have hne : w2.heap.size ≠ w.heap.size := by have := heap_lt HX2.out; omega
  clear BX
  have q0 : World.cell? W3 ⟨w.heap.size, 0, none⟩ = some (.int .i64 ch) := cell_of_heap HX3.out 0
  have q1 : World.cell? W3 ⟨w.heap.size, 1, none⟩ = some (.int .i64 sq) := cell_of_heap HX3.out 1
  have q2 : World.cell? W3 ⟨w.heap.size, 2, none⟩ = some (.slice A xs.length cap) := cell_of_heap HX3.out 2
  have HBA := Aside0.mk HB3
  clear HB3
  have HSK : Aside0 (∀ W : World, W.heap[w.heap.size]? = W3.heap[w.heap.size]? → ((fun W => W.cell? ⟨w.heap.size, 0, none⟩ = some (.int .i64 ch) ∧ W.cell? ⟨w.heap.size, 1, none⟩ = some (.int .i64 sq) ∧ W.cell? ⟨w.heap.size, 2, none⟩ = some (.slice A xs.length cap)) : World → Prop) W) := ⟨fun W hW => ⟨(cell_same_blk hW 0).trans q0, (cell_same_blk hW 1).trans q1, (cell_same_blk hW 2).trans q2⟩⟩
  refine wp_region_held_drew (S := (fun W => W.cell? ⟨w.heap.size, 0, none⟩ = some (.int .i64 ch) ∧ W.cell? ⟨w.heap.size, 1, none⟩ = some (.int .i64 sq) ∧ W.cell? ⟨w.heap.size, 2, none⟩ = some (.slice A xs.length cap))) (by kernel_rfl) ?_ (fun hHeld => ?_)
  · exact HSK.out _ rfl
  refine wpAnyH_take (i := 0) (oi := { dst := some 27, op := Go.Op.move (Go.Operand.tmp 4), type := 22, pos := "frame.go:26", after := #[], guard := none }) (v := ?vz0) rfl (by kernel_rfl) (by kernel_rfl) (by kernel_rfl) (fun _ _ _ h => h) (Or.inl ⟨by rfl, ?yz0⟩) (by assumption) ?rz0
  case yz0 => ((intro w hSw; (try dsimp only at hSw); go_simp) <;> with_reducible rfl)
  try simp only [Act.put, List.setIfInBounds_toArray, List.set_cons_zero, List.set_cons_succ]
  refine wpAnyH_take (i := 1) (oi := { dst := some 28, op := Go.Op.move (Go.Operand.tmp 4), type := 22, pos := "frame.go:26", after := #[{ on := 14, ground := Go.Ground.gcOnly Go.Departure.lateStores }], guard := none }) (v := ?vz1) rfl (by kernel_rfl) (by kernel_rfl) (by kernel_rfl) (fun _ _ _ h => h) (Or.inl ⟨by rfl, ?yz1⟩) (by assumption) ?rz1
  case yz1 => ((intro w hSw; (try dsimp only at hSw); go_simp) <;> with_reducible rfl)
  try simp only [Act.put, List.setIfInBounds_toArray, List.set_cons_zero, List.set_cons_succ]
  refine wpAnyH_take (i := 2) (oi := { dst := some 29, op := Go.Op.move (Go.Operand.tmp 4), type := 22, pos := "frame.go:26", after := #[{ on := 16, ground := Go.Ground.gcOnly Go.Departure.lateStores }], guard := none }) (v := ?vz2) rfl (by kernel_rfl) (by kernel_rfl) (by kernel_rfl) (fun _ _ _ h => h) (Or.inl ⟨by rfl, ?yz2⟩) (by assumption) ?rz2
  case yz2 => ((intro w hSw; (try dsimp only at hSw); go_simp) <;> with_reducible rfl)
  try simp only [Act.put, List.setIfInBounds_toArray, List.set_cons_zero, List.set_cons_succ]
  refine wpAnyH_take (i := 3) (oi := { dst := some 30, op := Go.Op.fieldAddr 24 (Go.Operand.tmp 1) 0, type := 0, pos := "frame.go:26", after := #[], guard := none }) (v := ?vz3) rfl (by kernel_rfl) (by kernel_rfl) (by kernel_rfl) (fun _ _ _ h => h) (Or.inl ⟨by rfl, ?yz3⟩) (by assumption) ?rz3
  case yz3 => ((intro w hSw; (try dsimp only at hSw); go_simp) <;> with_reducible rfl)
  try simp only [Act.put, List.setIfInBounds_toArray, List.set_cons_zero, List.set_cons_succ]
  refine wpAnyH_take (i := 4) (oi := { dst := some 31, op := Go.Op.load 3 (Go.Operand.tmp 30), type := 3, pos := "frame.go:26", after := #[{ on := 3, ground := Go.Ground.data }], guard := none }) (v := ?vz4) rfl (by kernel_rfl) (by kernel_rfl) (by kernel_rfl) (fun _ _ _ h => h) (Or.inl ⟨by rfl, ?yz4⟩) (by assumption) ?rz4
  case yz4 => ((intro w hSw; (try dsimp only at hSw); go_simp) <;> with_reducible rfl)
  try simp only [Act.put, List.setIfInBounds_toArray, List.set_cons_zero, List.set_cons_succ]
  refine wpAnyH_take (i := 5) (oi := { dst := some 32, op := Go.Op.convert 3 5 (Go.Operand.tmp 31), type := 5, pos := "frame.go:26", after := #[{ on := 4, ground := Go.Ground.data }], guard := none }) (v := ?vz5) rfl (by kernel_rfl) (by kernel_rfl) (by kernel_rfl) (fun _ _ _ h => h) (Or.inl ⟨by rfl, ?yz5⟩) (by assumption) ?rz5
  case yz5 => ((intro w hSw; (try dsimp only at hSw); go_simp) <;> with_reducible rfl)
  try simp only [Act.put, List.setIfInBounds_toArray, List.set_cons_zero, List.set_cons_succ]
  refine wpAnyH_take (i := 6) (oi := { dst := some 33, op := Go.Op.fieldAddr 24 (Go.Operand.tmp 1) 1, type := 0, pos := "frame.go:26", after := #[{ on := 14, ground := Go.Ground.gcOnly Go.Departure.lateStores }], guard := none }) (v := ?vz6) rfl (by kernel_rfl) (by kernel_rfl) (by kernel_rfl) (fun _ _ _ h => h) (Or.inl ⟨by rfl, ?yz6⟩) (by assumption) ?rz6
  case yz6 => ((intro w hSw; (try dsimp only at hSw); go_simp) <;> with_reducible rfl)
  try simp only [Act.put, List.setIfInBounds_toArray, List.set_cons_zero, List.set_cons_succ]
  refine wpAnyH_take (i := 7) (oi := { dst := some 34, op := Go.Op.load 3 (Go.Operand.tmp 33), type := 3, pos := "frame.go:26", after := #[{ on := 6, ground := Go.Ground.data }, { on := 14, ground := Go.Ground.gcOnly Go.Departure.lateStores }], guard := none }) (v := ?vz7) rfl (by kernel_rfl) (by kernel_rfl) (by kernel_rfl) (fun _ _ _ h => h) (Or.inl ⟨by rfl, ?yz7⟩) (by assumption) ?rz7
  case yz7 => ((intro w hSw; (try dsimp only at hSw); go_simp) <;> with_reducible rfl)
  try simp only [Act.put, List.setIfInBounds_toArray, List.set_cons_zero, List.set_cons_succ]
  refine wpAnyH_take (i := 8) (oi := { dst := some 35, op := Go.Op.convert 3 5 (Go.Operand.tmp 34), type := 5, pos := "frame.go:26", after := #[{ on := 7, ground := Go.Ground.data }, { on := 14, ground := Go.Ground.gcOnly Go.Departure.lateStores }], guard := none }) (v := ?vz8) rfl (by kernel_rfl) (by kernel_rfl) (by kernel_rfl) (fun _ _ _ h => h) (Or.inl ⟨by rfl, ?yz8⟩) (by assumption) ?rz8
  case yz8 => ((intro w hSw; (try dsimp only at hSw); go_simp) <;> with_reducible rfl)
  try simp only [Act.put, List.setIfInBounds_toArray, List.set_cons_zero, List.set_cons_succ]
  refine wpAnyH_take (i := 9) (oi := { dst := some 36, op := Go.Op.fieldAddr 24 (Go.Operand.tmp 1) 2, type := 0, pos := "frame.go:26", after := #[], guard := none }) (v := ?vz9) rfl (by kernel_rfl) (by kernel_rfl) (by kernel_rfl) (fun _ _ _ h => h) (Or.inl ⟨by rfl, ?yz9⟩) (by assumption) ?rz9
  case yz9 => ((intro w hSw; (try dsimp only at hSw); go_simp) <;> with_reducible rfl)
  try simp only [Act.put, List.setIfInBounds_toArray, List.set_cons_zero, List.set_cons_succ]
  refine wpAnyH_take (i := 10) (oi := { dst := some 37, op := Go.Op.load 22 (Go.Operand.tmp 36), type := 22, pos := "frame.go:26", after := #[{ on := 9, ground := Go.Ground.data }], guard := none }) (v := ?vz10) rfl (by kernel_rfl) (by kernel_rfl) (by kernel_rfl) (fun _ _ _ h => h) (Or.inl ⟨by rfl, ?yz10⟩) (by assumption) ?rz10
  case yz10 => ((intro w hSw; (try dsimp only at hSw); go_simp) <;> with_reducible rfl)
  try simp only [Act.put, List.setIfInBounds_toArray, List.set_cons_zero, List.set_cons_succ]
  refine wpAnyH_take (i := 11) (oi := { dst := some 38, op := Go.Op.call { callee := Go.Callee.builtin Go.Builtin.len, args := #[Go.Operand.tmp 37], argTypes := #[22] }, type := 3, pos := "frame.go:26", after := #[{ on := 10, ground := Go.Ground.data }], guard := none }) (v := ?vz11) rfl (by kernel_rfl) (by kernel_rfl) (by kernel_rfl) (fun _ _ _ h => h) (Or.inl ⟨by rfl, ?yz11⟩) (by assumption) ?rz11
  case yz11 => ((intro w hSw; (try dsimp only at hSw); go_simp) <;> with_reducible rfl)
  try simp only [Act.put, List.setIfInBounds_toArray, List.set_cons_zero, List.set_cons_succ]
  refine wpAnyH_take (i := 12) (oi := { dst := some 39, op := Go.Op.convert 3 5 (Go.Operand.tmp 38), type := 5, pos := "frame.go:26", after := #[{ on := 11, ground := Go.Ground.data }, { on := 16, ground := Go.Ground.gcOnly Go.Departure.lateStores }], guard := none }) (v := ?vz12) rfl (by kernel_rfl) (by kernel_rfl) (by kernel_rfl) (fun _ _ _ h => h) (Or.inl ⟨by rfl, ?yz12⟩) (by assumption) ?rz12
  case yz12 => ((intro w hSw; (try dsimp only at hSw); go_simp) <;> with_reducible rfl)
  try simp only [Act.put, List.setIfInBounds_toArray, List.set_cons_zero, List.set_cons_succ]
  refine wpAnyH_take (i := 13) (oi := { dst := some 40, op := Go.Op.indexAddr 22 (Go.Operand.tmp 27) (Go.Operand.const (Go.Value.int Go.IntKind.i64 0)), type := 0, pos := "frame.go:26", after := #[{ on := 0, ground := Go.Ground.data }, { on := 0, ground := Go.Ground.phase }, { on := 1, ground := Go.Ground.textOnly Go.Departure.lateStores }, { on := 2, ground := Go.Ground.textOnly Go.Departure.lateStores }, { on := 3, ground := Go.Ground.phase }, { on := 4, ground := Go.Ground.phase }, { on := 5, ground := Go.Ground.phase }, { on := 6, ground := Go.Ground.textOnly Go.Departure.lateStores }, { on := 7, ground := Go.Ground.textOnly Go.Departure.lateStores }, { on := 8, ground := Go.Ground.textOnly Go.Departure.lateStores }, { on := 9, ground := Go.Ground.textOnly Go.Departure.lateStores }, { on := 10, ground := Go.Ground.textOnly Go.Departure.lateStores }, { on := 11, ground := Go.Ground.textOnly Go.Departure.lateStoresUnsure }, { on := 12, ground := Go.Ground.textOnly Go.Departure.lateStores }], guard := none }) (v := ?vz13) rfl (by kernel_rfl) (by kernel_rfl) (by kernel_rfl) (fun _ _ _ h => h) (Or.inl ⟨by rfl, ?yz13⟩) (by assumption) ?rz13
  case yz13 => ((intro w hSw; (try dsimp only at hSw); go_simp) <;> with_reducible rfl)
  try simp only [Act.put, List.setIfInBounds_toArray, List.set_cons_zero, List.set_cons_succ]
  refine wpAnyH_ready (rs := [14]) (by kernel_rfl) (by simp) ?_
  refine AllReadyH.cons (o := { dst := none, op := Go.Op.store 5 (Go.Operand.tmp 40) (Go.Operand.tmp 32), type := 0, pos := "frame.go:26", after := #[{ on := 13, ground := Go.Ground.data }, { on := 5, ground := Go.Ground.data }, { on := 0, ground := Go.Ground.phase }, { on := 1, ground := Go.Ground.textOnly Go.Departure.lateStores }, { on := 2, ground := Go.Ground.textOnly Go.Departure.lateStores }, { on := 3, ground := Go.Ground.phase }, { on := 4, ground := Go.Ground.phase }, { on := 5, ground := Go.Ground.phase }, { on := 6, ground := Go.Ground.textOnly Go.Departure.lateStores }, { on := 7, ground := Go.Ground.textOnly Go.Departure.lateStores }, { on := 8, ground := Go.Ground.textOnly Go.Departure.lateStores }, { on := 9, ground := Go.Ground.textOnly Go.Departure.lateStores }, { on := 10, ground := Go.Ground.textOnly Go.Departure.lateStores }, { on := 11, ground := Go.Ground.textOnly Go.Departure.lateStoresUnsure }, { on := 12, ground := Go.Ground.textOnly Go.Departure.lateStores }], guard := none }) rfl (fun K hK => ?kz14) AllReadyH.nil
  have k0 : ∃ u, World.cell? W3.drew ⟨w2.heap.size, 0, none⟩ = some u := ⟨_, (cell_of_heap HBA.out 0).trans (made_at _ 0 (by omega))⟩
  obtain ⟨uk0, k0⟩ := k0
  have hz0 : World.frozen? W3.drew ⟨w2.heap.size, 0, none⟩ = false := frozen_of_heap HBA.out 0
  go_simp
  refine hK.out _ _ ?_ (fun hHeld => ?_)
  · exact HSK.out _ (Below.heap_setCell _ _ _ _ (Ne.symm hne))
  clear hK K
  try simp only [Act.put, List.setIfInBounds_toArray, List.set_cons_zero, List.set_cons_succ]
  refine wpAnyH_take (i := 15) (oi := { dst := some 41, op := Go.Op.indexAddr 22 (Go.Operand.tmp 28) (Go.Operand.const (Go.Value.int Go.IntKind.i64 1)), type := 0, pos := "frame.go:26", after := #[{ on := 1, ground := Go.Ground.data }, { on := 0, ground := Go.Ground.phase }, { on := 1, ground := Go.Ground.phase }, { on := 2, ground := Go.Ground.textOnly Go.Departure.lateStores }, { on := 3, ground := Go.Ground.phase }, { on := 4, ground := Go.Ground.phase }, { on := 5, ground := Go.Ground.phase }, { on := 6, ground := Go.Ground.phase }, { on := 7, ground := Go.Ground.phase }, { on := 8, ground := Go.Ground.phase }, { on := 9, ground := Go.Ground.textOnly Go.Departure.lateStores }, { on := 10, ground := Go.Ground.textOnly Go.Departure.lateStores }, { on := 11, ground := Go.Ground.textOnly Go.Departure.lateStoresUnsure }, { on := 12, ground := Go.Ground.textOnly Go.Departure.lateStores }, { on := 13, ground := Go.Ground.phase }, { on := 14, ground := Go.Ground.phase }], guard := none }) (v := ?vz15) rfl (by kernel_rfl) (by kernel_rfl) (by kernel_rfl) (fun _ _ _ h => h) (Or.inl ⟨by rfl, ?yz15⟩) (by assumption) ?rz15
  case yz15 => ((intro w hSw; (try dsimp only at hSw); go_simp) <;> with_reducible rfl)
  try simp only [Act.put, List.setIfInBounds_toArray, List.set_cons_zero, List.set_cons_succ]
  refine wpAnyH_ready (rs := [16]) (by kernel_rfl) (by simp) ?_
  refine AllReadyH.cons (o := { dst := none, op := Go.Op.store 5 (Go.Operand.tmp 41) (Go.Operand.tmp 35), type := 0, pos := "frame.go:26", after := #[{ on := 15, ground := Go.Ground.data }, { on := 8, ground := Go.Ground.data }, { on := 14, ground := Go.Ground.chain }, { on := 0, ground := Go.Ground.phase }, { on := 1, ground := Go.Ground.phase }, { on := 2, ground := Go.Ground.textOnly Go.Departure.lateStores }, { on := 3, ground := Go.Ground.phase }, { on := 4, ground := Go.Ground.phase }, { on := 5, ground := Go.Ground.phase }, { on := 6, ground := Go.Ground.phase }, { on := 7, ground := Go.Ground.phase }, { on := 8, ground := Go.Ground.phase }, { on := 9, ground := Go.Ground.textOnly Go.Departure.lateStores }, { on := 10, ground := Go.Ground.textOnly Go.Departure.lateStores }, { on := 11, ground := Go.Ground.textOnly Go.Departure.lateStoresUnsure }, { on := 12, ground := Go.Ground.textOnly Go.Departure.lateStores }, { on := 13, ground := Go.Ground.phase }, { on := 14, ground := Go.Ground.phase }], guard := none }) rfl (fun K hK => ?kz16) AllReadyH.nil
  have HBb := blk_set HBA.out 0 (.int .u8 (IntKind.u8.wrap ch))
  have k1 : ∃ u, World.cell? (W3.setCell ⟨w2.heap.size, 0, none⟩ (.int .u8 (IntKind.u8.wrap ch))).drew ⟨w2.heap.size, 1, none⟩ = some u := ⟨.int .u8 0, by show World.cell? (W3.setCell ⟨w2.heap.size, 0, none⟩ (.int .u8 (IntKind.u8.wrap ch))) _ = _; rw [cell_set_ne _ (by omega), cell_of_heap HBA.out 1]; exact made_at _ 1 (by omega)⟩
  obtain ⟨uk1, k1⟩ := k1
  have hz1 : World.frozen? (W3.setCell ⟨w2.heap.size, 0, none⟩ (.int .u8 (IntKind.u8.wrap ch))).drew ⟨w2.heap.size, 1, none⟩ = false := frozen_of_heap HBb 1
  clear HBb
  go_simp
  refine hK.out _ _ ?_ (fun hHeld => ?_)
  · exact HSK.out _ ((Below.heap_setCell _ _ _ _ (Ne.symm hne)).trans (Below.heap_setCell _ _ _ _ (Ne.symm hne)))
  clear hK K
  try simp only [Act.put, List.setIfInBounds_toArray, List.set_cons_zero, List.set_cons_succ]
  refine wpAnyH_take (i := 17) (oi := { dst := some 42, op := Go.Op.indexAddr 22 (Go.Operand.tmp 29) (Go.Operand.const (Go.Value.int Go.IntKind.i64 2)), type := 0, pos := "frame.go:26", after := #[{ on := 2, ground := Go.Ground.data }, { on := 0, ground := Go.Ground.phase }, { on := 1, ground := Go.Ground.phase }, { on := 2, ground := Go.Ground.phase }, { on := 3, ground := Go.Ground.phase }, { on := 4, ground := Go.Ground.phase }, { on := 5, ground := Go.Ground.phase }, { on := 6, ground := Go.Ground.phase }, { on := 7, ground := Go.Ground.phase }, { on := 8, ground := Go.Ground.phase }, { on := 9, ground := Go.Ground.phase }, { on := 10, ground := Go.Ground.phase }, { on := 11, ground := Go.Ground.phase }, { on := 12, ground := Go.Ground.phase }, { on := 13, ground := Go.Ground.phase }, { on := 14, ground := Go.Ground.phase }, { on := 15, ground := Go.Ground.phase }, { on := 16, ground := Go.Ground.phase }], guard := none }) (v := ?vz17) rfl (by kernel_rfl) (by kernel_rfl) (by kernel_rfl) (fun _ _ _ h => h) (Or.inl ⟨by rfl, ?yz17⟩) (by assumption) ?rz17
  case yz17 => ((intro w hSw; (try dsimp only at hSw); go_simp) <;> with_reducible rfl)
  try simp only [Act.put, List.setIfInBounds_toArray, List.set_cons_zero, List.set_cons_succ]
  refine wpAnyH_ready (rs := [18]) (by kernel_rfl) (by simp) ?_
  refine AllReadyH.cons (o := { dst := none, op := Go.Op.store 5 (Go.Operand.tmp 42) (Go.Operand.tmp 39), type := 0, pos := "frame.go:26", after := #[{ on := 17, ground := Go.Ground.data }, { on := 12, ground := Go.Ground.data }, { on := 16, ground := Go.Ground.chain }, { on := 0, ground := Go.Ground.phase }, { on := 1, ground := Go.Ground.phase }, { on := 2, ground := Go.Ground.phase }, { on := 3, ground := Go.Ground.phase }, { on := 4, ground := Go.Ground.phase }, { on := 5, ground := Go.Ground.phase }, { on := 6, ground := Go.Ground.phase }, { on := 7, ground := Go.Ground.phase }, { on := 8, ground := Go.Ground.phase }, { on := 9, ground := Go.Ground.phase }, { on := 10, ground := Go.Ground.phase }, { on := 11, ground := Go.Ground.phase }, { on := 12, ground := Go.Ground.phase }, { on := 13, ground := Go.Ground.phase }, { on := 14, ground := Go.Ground.phase }, { on := 15, ground := Go.Ground.phase }, { on := 16, ground := Go.Ground.phase }], guard := none }) rfl (fun K hK => ?kz18) AllReadyH.nil
  have HBc := blk_set (blk_set HBA.out 0 (.int .u8 (IntKind.u8.wrap ch))) 1 (.int .u8 (IntKind.u8.wrap sq))
  have k2 : ∃ u, World.cell? ((W3.setCell ⟨w2.heap.size, 0, none⟩ (.int .u8 (IntKind.u8.wrap ch))).setCell ⟨w2.heap.size, 1, none⟩ (.int .u8 (IntKind.u8.wrap sq))).drew ⟨w2.heap.size, 2, none⟩ = some u := ⟨.int .u8 0, by show World.cell? ((W3.setCell ⟨w2.heap.size, 0, none⟩ (.int .u8 (IntKind.u8.wrap ch))).setCell ⟨w2.heap.size, 1, none⟩ (.int .u8 (IntKind.u8.wrap sq))) _ = _; rw [cell_set_ne _ (by omega), cell_set_ne _ (by omega), cell_of_heap HBA.out 2]; exact made_at _ 2 (by omega)⟩
  obtain ⟨uk2, k2⟩ := k2
  have hz2 : World.frozen? ((W3.setCell ⟨w2.heap.size, 0, none⟩ (.int .u8 (IntKind.u8.wrap ch))).setCell ⟨w2.heap.size, 1, none⟩ (.int .u8 (IntKind.u8.wrap sq))).drew ⟨w2.heap.size, 2, none⟩ = false := frozen_of_heap HBc 2
  clear HBc
  go_simp
  refine hK.out _ _ ?_ (fun hHeld => ?_)
  · exact HSK.out _ ((Below.heap_setCell _ _ _ _ (Ne.symm hne)).trans ((Below.heap_setCell _ _ _ _ (Ne.symm hne)).trans (Below.heap_setCell _ _ _ _ (Ne.symm hne))))
  clear hK K
  try simp only [Act.put, List.setIfInBounds_toArray, List.set_cons_zero, List.set_cons_succ]
  refine wpAnyH_done (by kernel_rfl) ?_ _
  have e8 : IntKind.u8.wrap ch = ch ∧ IntKind.u8.wrap sq = sq ∧ IntKind.u8.wrap (xs.length : Int) = xs.length := by
    have := HM.out
    rw [wrap8, wrap8, wrap8]; omega
  rw [e8.1, e8.2.1, e8.2.2]
  clear e8
  have HR4 := Aside0.mk (Kd.R_drew (head_row ch sq xs.length HBA.out (by have := HN.out; omega)))
  have HX4 : Aside0 ((((W3.setCell ⟨w2.heap.size, 0, none⟩ (.int .u8 ch)).setCell ⟨w2.heap.size, 1, none⟩ (.int .u8 sq)).setCell ⟨w2.heap.size, 2, none⟩ (.int .u8 xs.length)).drew.heap[w.heap.size]? = some (.cells #[.int .i64 ch, .int .i64 sq, .slice A xs.length cap] 24 (0, 0))) := ⟨((Below.heap_setCell _ _ _ _ (Ne.symm hne)).trans ((Below.heap_setCell _ _ _ _ (Ne.symm hne)).trans (Below.heap_setCell _ _ _ _ (Ne.symm hne)))).trans HX3.out⟩
  have B4 : Aside0 (Below w.heap.size w (((W3.setCell ⟨w2.heap.size, 0, none⟩ (.int .u8 ch)).setCell ⟨w2.heap.size, 1, none⟩ (.int .u8 sq)).setCell ⟨w2.heap.size, 2, none⟩ (.int .u8 xs.length)).drew) := ⟨below_drew (((B3.out.setCell (by have := B2.out.size; exact this) _).setCell (by have := B2.out.size; exact this) _).setCell (by have := B2.out.size; exact this) _)⟩
  have HSZ4 : Aside0 (w2.heap.size ≤ (((W3.setCell ⟨w2.heap.size, 0, none⟩ (.int .u8 ch)).setCell ⟨w2.heap.size, 1, none⟩ (.int .u8 sq)).setCell ⟨w2.heap.size, 2, none⟩ (.int .u8 xs.length)).drew.heap.size) := ⟨by have h1 := heap_lt HBA.out; have h2 := (((set_only W3 w2.heap.size 0 (.int .u8 ch)).trans (set_only _ w2.heap.size 1 (.int .u8 sq))).trans (set_only _ w2.heap.size 2 (.int .u8 xs.length))).size; exact Nat.le_trans (Nat.le_of_lt h1) h2⟩
  generalize (((W3.setCell ⟨w2.heap.size, 0, none⟩ (.int .u8 ch)).setCell ⟨w2.heap.size, 1, none⟩ (.int .u8 sq)).setCell ⟨w2.heap.size, 2, none⟩ (.int .u8 xs.length)).drew = w4 at HR4 HX4 B4 HSZ4 ⊢
  clear q0 q1 q2
  have q2 : World.cell? w4 ⟨w.heap.size, 2, none⟩ = some (.slice A xs.length cap) := cell_of_heap HX4.out 2
  have info5 := info5
  go_wp2_with ((with_reducible refine gate_builtin (b := .append) (xs := #[.tmp 43, .tmp 45]) rfl ?_); at_builtin; refine Kd.R_append_rows (Kd.int .u8) (w0 := w4) w2.heap.size rfl (.tmp 43) (.tmp 45) 22 5 (.int .u8 0) 1 rfl Tryd.underlying22 info5 rfl (by decide) (by omega) (.slice (some ⟨w2.heap.size, 0, none⟩) 3 (3 + xs.length)) [ch, sq, (xs.length : Int)] xs A xs.length cap (fun _ => True) (fun _ => False) rfl rfl ?aO ?aR (fun _ _ h => h) (fun _ h => h.elim) (fun _ _ => trivial) ?aB ?aS ?aL ?_)
  case aO => exact HR4.out
  case aR => exact Kd.C_below HC.out B4.out
  case aB => exact Below.refl _ _
  try case aS => exact HSZ4.out
  case aL => have := HN.out; simp; omega
  intro v5 w5 ho hb hg hat
  obtain ⟨A5, c5, rfl, hc5, hC5⟩ := Kd.R_reads ho
  have B5 : Aside0 (Below w.heap.size w w5) := ⟨below_thenB B4.out hb B2.out.size⟩
  have HC5 := Aside0.mk hC5
  have HCC := Aside0.mk hc5
  clear ho hb hg hat hC5 hc5 q2
  go_wp2_with fail
  refine (Seal_calls A5 c5 ([ch, sq, (xs.length : Int)] ++ xs) w5 HC5.out HCC.out (by have := HN.out; simp; omega)).mono ?_
  rintro e w6 ⟨v6, rfl, hR, hb⟩
  obtain ⟨A6, c6, rfl, -, -⟩ := Kd.R_reads hR
  have B6 := Aside0.mk (below_thenB B5.out hb B5.out.size)
  have R6 := Aside0.mk (Kd.R_lower hR B5.out.size)
  clear hR hb
  go_wp2_with fail
  go_ret2
  rw [HE.out.1, HE.out.2]
  exact ⟨_, _, rfl, .inl ⟨rfl, rfl⟩, R6.out, B6.out⟩
end Go.Proofs.YtnigocoanlaiiaaDoor.PE

