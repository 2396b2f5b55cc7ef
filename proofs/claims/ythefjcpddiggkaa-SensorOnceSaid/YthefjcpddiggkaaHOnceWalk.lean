/- Counts, modes and routes that are read are printed as the bytes that they were read from: SensorOnce returns true, of any bytes (the walk of the law). -/
import Derived.Test.YthefjcpddiggkaaHBackPure
import Derived.Test.YthefjcpddiggkaaHBackWalk
import Derived.Deep.RegionHeld3
import Derived.Outline
namespace Go.Proofs.Ythefjcpddiggkaa.PS
open Go.RowKit Go.Proofs.YthefjcpddiggkaaW.PrintWords Go.Proofs.YthefjcpddiggkaaW.PrintLast Go.Proofs.YthefjcpddiggkaaW.PrintMore
attribute [local go_sem] max2_int min2_int max_two min_two max_three min_three max_four min_four
set_option linter.unusedVariables false
set_option linter.unusedSimpArgs false
attribute [local go_sem high] eqA27 eqA33

/-- A row of one count, as it is made. -/
theorem lit_C33 (W : World) (f0 : Bool) (f1 f2 f3 f4 : Int) : Kd.C k33 (W.alloc (.cells #[.bool f0, .int .i64 f1, .int .i64 f2, .int .i64 f3, .int .i64 f4] 33)) (some ⟨W.heap.size, 0, none⟩) 1 [⟨f0, f1, f2, f3, f4⟩] := by
  refine ⟨rfl, by omega, fun _ => ⟨_, rfl, fun j p hp => ?_⟩⟩
  have hj : j = 0 := by
    rcases j with _ | j
    · rfl
    · simp at hp
  subst hj
  have hp' : p = ⟨f0, f1, f2, f3, f4⟩ := by simpa using hp.symm
  subst hp'
  refine ⟨[.bool f0, .int .i64 f1, .int .i64 f2, .int .i64 f3, .int .i64 f4], rfl, k33_mk _ _, fun i u hu => ?_⟩
  rw [Nat.zero_mul, Nat.zero_add, add_plain]
  rw [World.cell?_alloc_at _ _ _ _ rfl]
  rcases i with _ | _ | _ | _ | _ | i <;> first | (simp at hu; done) | simpa using hu
set_option maxHeartbeats 4000000 in
set_option maxRecDepth 100000 in
theorem once_big (A0 : Option Addr) (c0 : Nat) (l0 : List Int) (w : World) (hr0 : Kd.C (Kd.int .u8) w A0 l0.length l0) (hc0 : l0.length ≤ c0) (hbig : 300 < l0.length) :
    Calls Try.prog 7 #[.slice A0 l0.length c0] w fun e w' => e = .returned (.bool true) ∧ Below w.heap.size w w' := by
  have HR0 := Aside0.mk hr0
  have HC0 := Aside0.mk hc0
  clear hr0 hc0
  go_enter Try.func7, Try.ntmps7
  go_wp2_with fail
  refine (small_true _).mono ?_
  rintro e w1 ⟨rfl, hb⟩
  have B1 := Aside0.mk hb
  clear hb
  go_wp2
  go_ret
  exact ⟨rfl, B1.out⟩
set_option maxHeartbeats 4000000 in
set_option maxRecDepth 100000 in
theorem once_none (A0 : Option Addr) (c0 : Nat) (l0 : List Int) (w : World) (hr0 : Kd.C (Kd.int .u8) w A0 l0.length l0) (hc0 : l0.length ≤ c0) (hbig : ¬ 300 < l0.length) (hn : ((l0.length : Int) == 1) = false) (hK : sensor_Counts.f l0 true = some (false, 0, 0, 0, 0)) :
    Calls Try.prog 7 #[.slice A0 l0.length c0] w fun e w' => e = .returned (.bool true) ∧ Below w.heap.size w w' := by
  have HK := Aside0.mk hK
  have hn2 : ((l0.length : Int) != 1) = true := by rw [bne, hn]; rfl
  clear hK
  have HR0 := Aside0.mk hr0
  have HC0 := Aside0.mk hc0
  clear hr0 hc0
  go_enter Try.func7, Try.ntmps7
  go_wp2_with fail
  refine (small_true _).mono ?_
  rintro e w1 ⟨rfl, hb⟩
  have B1 := Aside0.mk hb
  clear hb
  go_wp2_with fail
  refine (sensor_Counts.calls A0 c0 l0 true false 0 0 0 0 _ (Kd.C_below HR0.out B1.out) HC0.out HK.out).mono ?_
  rintro e w2 ⟨rfl, hb⟩
  have B2 := btrans B1 ⟨hb⟩
  clear hb
  go_upto_region 5 with fail
  obtain ⟨w3, hw3⟩ : ∃ x, x = w2.alloc (.cells #[.bool false, .int .i64 0, .int .i64 0, .int .i64 0, .int .i64 0] 33) := ⟨_, rfl⟩
  have B3 : Aside0 (Below w.heap.size w w3) := by rw [hw3]; exact balloc B2 _
  have HG : Aside0 (w2.heap.size < w3.heap.size) := by rw [hw3]; exact ⟨by simp⟩
  have t0 : w3.cell? ⟨w2.heap.size, 0, none⟩ = some (.bool false) := by rw [hw3]; exact cell_new _ _ _ 0
  have t1 : w3.cell? ⟨w2.heap.size, 1, none⟩ = some (.int .i64 0) := by rw [hw3]; exact cell_new _ _ _ 1
  have t2 : w3.cell? ⟨w2.heap.size, 2, none⟩ = some (.int .i64 0) := by rw [hw3]; exact cell_new _ _ _ 2
  have t3 : w3.cell? ⟨w2.heap.size, 3, none⟩ = some (.int .i64 0) := by rw [hw3]; exact cell_new _ _ _ 3
  have t4 : w3.cell? ⟨w2.heap.size, 4, none⟩ = some (.int .i64 0) := by rw [hw3]; exact cell_new _ _ _ 4
  first | rw [← hw3] | (simp only [← hw3])
  clear hw3
  have hg : w2.heap.size < w3.heap.size := HG.out
  go_quiet (fail)
  go_wp2
  go_ret
  exact ⟨rfl, by repeat (first | exact B3.out | apply pw_below_drewN | apply below_drew)⟩
set_option maxHeartbeats 4000000 in
set_option maxRecDepth 100000 in
theorem once_four (A0 : Option Addr) (c0 : Nat) (a b c d : Int) (w : World) (hr0 : Kd.C (Kd.int .u8) w A0 [a, b, c, d].length [a, b, c, d]) (hc0 : [a, b, c, d].length ≤ c0) (hK : sensor_Counts.f [a, b, c, d] true = some (true, a, b, c, d)) (hT : trackB ⟨true, a, b, c, d⟩ = [a, b, c, d]) :
    Calls Try.prog 7 #[.slice A0 4 c0] w fun e w' => e = .returned (.bool true) ∧ Below w.heap.size w w' := by
  have HK := Aside0.mk hK
  have HP : Aside0 (Inp.prt ⟨false, false, false, false, false, false, false, 0, false, false, 0, [⟨true, a, b, c, d⟩]⟩ 8 = some [a, b, c, d]) := ⟨by
    have e := prtT ⟨false, false, false, false, false, false, false, 0, false, false, 0, [⟨true, a, b, c, d⟩]⟩ 0 (by simp) (by omega)
    rw [show rd_T33 [⟨true, a, b, c, d⟩] ((0 : Nat) : Int) = ⟨true, a, b, c, d⟩ from rfl, hT] at e
    exact e⟩
  clear hK hT
  have HR0 := Aside0.mk hr0
  have HC0 := Aside0.mk hc0
  clear hr0 hc0
  go_enter Try.func7, Try.ntmps7
  go_wp2_with fail
  refine (small_true _).mono ?_
  rintro e w1 ⟨rfl, hb⟩
  have B1 := Aside0.mk hb
  clear hb
  go_wp2_with fail
  refine (sensor_Counts.calls A0 c0 [a, b, c, d] true true a b c d _ (Kd.C_below HR0.out B1.out) HC0.out HK.out).mono ?_
  rintro e w2 ⟨rfl, hb⟩
  have B2 := btrans B1 ⟨hb⟩
  clear hb
  go_upto_region 5 with fail
  obtain ⟨w3, hw3⟩ : ∃ x, x = w2.alloc (.cells #[.bool true, .int .i64 a, .int .i64 b, .int .i64 c, .int .i64 d] 33) := ⟨_, rfl⟩
  have B3 : Aside0 (Below w.heap.size w w3) := by rw [hw3]; exact balloc B2 _
  have HG : Aside0 (w2.heap.size < w3.heap.size) := by rw [hw3]; exact ⟨by simp⟩
  have t0 : w3.cell? ⟨w2.heap.size, 0, none⟩ = some (.bool true) := by rw [hw3]; exact cell_new _ _ _ 0
  have t1 : w3.cell? ⟨w2.heap.size, 1, none⟩ = some (.int .i64 a) := by rw [hw3]; exact cell_new _ _ _ 1
  have t2 : w3.cell? ⟨w2.heap.size, 2, none⟩ = some (.int .i64 b) := by rw [hw3]; exact cell_new _ _ _ 2
  have t3 : w3.cell? ⟨w2.heap.size, 3, none⟩ = some (.int .i64 c) := by rw [hw3]; exact cell_new _ _ _ 3
  have t4 : w3.cell? ⟨w2.heap.size, 4, none⟩ = some (.int .i64 d) := by rw [hw3]; exact cell_new _ _ _ 4
  first | rw [← hw3] | (simp only [← hw3])
  clear hw3
  have hg : w2.heap.size < w3.heap.size := HG.out
  obtain ⟨s, hs⟩ : ∃ s, s = strOfNums [a, b, c, d] := ⟨_, rfl⟩
  have HS : Aside0 (∀ W, Below w.heap.size w W → (convert 22 9 (.slice A0 4 c0)).run Try.prog W = .ok (.string s) W) := ⟨fun W hW => by rw [hs]; exact Kd.C_string (P := Try.prog) (src := 22) (dst := 9) (e := 5) Try.underlying22 Try.underlying5 Try.underlying9 (Kd.C_below HR0.out hW)⟩
  have SK : Aside0 (∀ W, Below w3.heap.size w3 W → (fun W => (convert 22 9 (.slice A0 4 c0)).run Try.prog W = .ok (.string s) W ∧ W.cell? ⟨w2.heap.size, 0, none⟩ = some (.bool true) ∧ W.cell? ⟨w2.heap.size, 1, none⟩ = some (.int .i64 a) ∧ W.cell? ⟨w2.heap.size, 2, none⟩ = some (.int .i64 b) ∧ W.cell? ⟨w2.heap.size, 3, none⟩ = some (.int .i64 c) ∧ W.cell? ⟨w2.heap.size, 4, none⟩ = some (.int .i64 d)) W) := ⟨fun W hW => ⟨HS.out W (btrans B3 ⟨hW⟩).out, bcellA ⟨hW⟩ t0, bcellA ⟨hW⟩ t1, bcellA ⟨hW⟩ t2, bcellA ⟨hW⟩ t3, bcellA ⟨hW⟩ t4⟩⟩
  have HSS := Aside0.mk hs
  clear hs t0 t1 t2 t3 t4
  go_cut [28] (fun v W => v = .bool false ∧ Aside0 (Below w3.heap.size w3 W))
  case first =>
    refine wp_region_held_drew (S := (fun W => (convert 22 9 (.slice A0 4 c0)).run Try.prog W = .ok (.string s) W ∧ W.cell? ⟨w2.heap.size, 0, none⟩ = some (.bool true) ∧ W.cell? ⟨w2.heap.size, 1, none⟩ = some (.int .i64 a) ∧ W.cell? ⟨w2.heap.size, 2, none⟩ = some (.int .i64 b) ∧ W.cell? ⟨w2.heap.size, 3, none⟩ = some (.int .i64 c) ∧ W.cell? ⟨w2.heap.size, 4, none⟩ = some (.int .i64 d))) (by kernel_rfl) ?_ (fun hHeld => ?_)
    · exact SK.out _ (by repeat (first | exact Below.refl _ _ | apply pw_below_drewN | apply below_drew | apply below_alloc))
    refine wpAnyH_take (i := 0) (oi := { dst := some 17, op := Go.Op.fieldAddr 33 (Go.Operand.tmp 4) 0, type := 0, pos := "law.go:100", after := #[], guard := none }) (v := ?vq0) rfl (by kernel_rfl) (by kernel_rfl) (by kernel_rfl) (fun _ _ _ h => h) (Or.inl ⟨by rfl, ?yq0⟩) (by assumption) ?rq0
    case yq0 => ((intro w hSw; (try dsimp only at hSw); go_simp) <;> with_reducible rfl)
    try simp only [Act.put, List.setIfInBounds_toArray, List.set_cons_zero, List.set_cons_succ]
    refine wpAnyH_take (i := 1) (oi := { dst := some 18, op := Go.Op.load 4 (Go.Operand.tmp 17), type := 4, pos := "law.go:100", after := #[{ on := 0, ground := Go.Ground.data }], guard := none }) (v := ?vq1) rfl (by kernel_rfl) (by kernel_rfl) (by kernel_rfl) (fun _ _ _ h => h) (Or.inl ⟨by rfl, ?yq1⟩) (by assumption) ?rq1
    case yq1 => ((intro w hSw; (try dsimp only at hSw); go_simp) <;> with_reducible rfl)
    try simp only [Act.put, List.setIfInBounds_toArray, List.set_cons_zero, List.set_cons_succ]
    refine wpAnyH_take (i := 2) (oi := { dst := some 19, op := Go.Op.move (Go.Operand.tmp 18), type := 4, pos := "law.go:100", after := #[{ on := 1, ground := Go.Ground.data }], guard := none }) (v := ?vq2) rfl (by kernel_rfl) (by kernel_rfl) (by kernel_rfl) (fun _ _ _ h => h) (Or.inl ⟨by rfl, ?yq2⟩) (by assumption) ?rq2
    case yq2 => ((intro w hSw; (try dsimp only at hSw); go_simp) <;> with_reducible rfl)
    try simp only [Act.put, List.setIfInBounds_toArray, List.set_cons_zero, List.set_cons_succ]
    refine wpAnyH_take (i := 3) (oi := { dst := some 20, op := Go.Op.load 33 (Go.Operand.tmp 4), type := 33, pos := "law.go:100", after := #[{ on := 2, ground := Go.Ground.guard }], guard := some (2, true) }) (v := ?vq3) rfl (by kernel_rfl) (by kernel_rfl) (by kernel_rfl) (fun _ _ _ h => h) (Or.inl ⟨by rfl, ?yq3⟩) (by assumption) ?rq3
    case yq3 => ((intro w hSw; (try dsimp only at hSw); go_simp) <;> with_reducible rfl)
    try simp only [Act.put, List.setIfInBounds_toArray, List.set_cons_zero, List.set_cons_succ]
    refine wpAnyH_take (i := 8) (oi := { dst := some 25, op := Go.Op.move (Go.Operand.tmp 0), type := 22, pos := "law.go:100", after := #[{ on := 2, ground := Go.Ground.guard }], guard := some (2, true) }) (v := ?vq8) rfl (by kernel_rfl) (by kernel_rfl) (by kernel_rfl) (fun _ _ _ h => h) (Or.inl ⟨by rfl, ?yq8⟩) (by assumption) ?rq8
    case yq8 => ((intro w hSw; (try dsimp only at hSw); go_simp) <;> with_reducible rfl)
    try simp only [Act.put, List.setIfInBounds_toArray, List.set_cons_zero, List.set_cons_succ]
    refine wpAnyH_take (i := 9) (oi := { dst := some 26, op := Go.Op.convert 22 9 (Go.Operand.tmp 25), type := 9, pos := "law.go:100", after := #[{ on := 8, ground := Go.Ground.data }, { on := 2, ground := Go.Ground.guard }], guard := some (2, true) }) (v := ?vq9) rfl (by kernel_rfl) (by kernel_rfl) (by kernel_rfl) (fun _ _ _ h => h) (Or.inl ⟨by rfl, ?yq9⟩) (by assumption) ?rq9
    case yq9 => ((intro w hSw; (try dsimp only at hSw); go_simp) <;> with_reducible rfl)
    try simp only [Act.put, List.setIfInBounds_toArray, List.set_cons_zero, List.set_cons_succ]
    refine wpAnyH_ready (rs := [4]) (by kernel_rfl) (by simp) ?_
    refine AllReadyH.cons (o := { dst := some 21, op := Go.Op.buildSlice 36 1 #[(0, Go.Operand.tmp 20)], type := 36, pos := "law.go:100", after := #[{ on := 3, ground := Go.Ground.data }, { on := 2, ground := Go.Ground.guard }], guard := some (2, true) }) rfl (fun K hK => ?kq4) AllReadyH.nil
    go_simp
    refine hK.out _ _ ?_ (fun hHeld => ?_)
    · exact SK.out _ (by repeat (first | exact Below.refl _ _ | apply pw_below_drewN | apply below_drew | apply below_alloc))
    clear hK K
    try simp only [Act.put, List.setIfInBounds_toArray, List.set_cons_zero, List.set_cons_succ]
    refine wpAnyH_take (i := 5) (oi := { dst := some 22, op := Go.Op.build 38 #[(8, Go.Operand.tmp 21)], type := 38, pos := "law.go:100", after := #[{ on := 4, ground := Go.Ground.data }, { on := 2, ground := Go.Ground.guard }], guard := some (2, true) }) (v := ?vq5) rfl (by kernel_rfl) (by kernel_rfl) (by kernel_rfl) (fun _ _ _ h => h) (Or.inl ⟨by rfl, ?yq5⟩) (by assumption) ?rq5
    case yq5 => ((intro w hSw; (try dsimp only at hSw); go_simp) <;> with_reducible rfl)
    try simp only [Act.put, List.setIfInBounds_toArray, List.set_cons_zero, List.set_cons_succ]
    refine wpAnyH_ready (rs := [6]) (by kernel_rfl) (by simp) ?_
    refine AllReadyH.cons (o := { dst := some 23, op := Go.Op.call { callee := Go.Callee.value (Go.Operand.func 23), args := #[Go.Operand.tmp 22, Go.Operand.const (Go.Value.int Go.IntKind.i64 8)], argTypes := #[38, 3] }, type := 22, pos := "law.go:100", after := #[{ on := 5, ground := Go.Ground.data }, { on := 2, ground := Go.Ground.chain }, { on := 2, ground := Go.Ground.guard }], guard := some (2, true) }) rfl (fun K hK => ?kq6) AllReadyH.nil
    go_simp
    refine (prt_calls _ 1 false false false false false false false 0 false false 0 [⟨true, a, b, c, d⟩] 8 [a, b, c, d] _ (by first | exact lit_C33 _ _ _ _ _ _ | exact Kd.C_drew (lit_C33 _ _ _ _ _ _)) (Nat.le_refl _) HP.out).mono ?_
    rintro e w6 ⟨A6, k6, rfl, hk6, hC6, b6⟩
    have hv : (convert 22 9 (.slice A6 4 k6)).run Try.prog w6 = .ok (.string s) w6 := by rw [HSS.out]; exact Kd.C_string (P := Try.prog) (src := 22) (dst := 9) (e := 5) (c := k6) Try.underlying22 Try.underlying5 Try.underlying9 hC6
    have D6 : Aside0 (Below w3.heap.size w3 w6) := ⟨below_step (by repeat (first | exact Below.refl _ _ | apply pw_below_drewN | apply below_drew | apply below_alloc)) b6.out⟩
    clear hk6 hC6 b6
    refine hK.out _ _ ?_ (fun hHeld => ?_)
    · exact SK.out _ D6.out
    clear hK K
    try simp only [Act.put, List.setIfInBounds_toArray, List.set_cons_zero, List.set_cons_succ]
    refine wpAnyH_ready (rs := [7]) (by kernel_rfl) (by simp) ?_
    refine AllReadyH.cons (o := { dst := some 24, op := Go.Op.convert 22 9 (Go.Operand.tmp 23), type := 9, pos := "law.go:100", after := #[{ on := 6, ground := Go.Ground.data }, { on := 2, ground := Go.Ground.guard }], guard := some (2, true) }) rfl (fun K hK => ?kq7) AllReadyH.nil
    go_simp
    refine hK.out _ _ ?_ (fun hHeld => ?_)
    · exact SK.out _ D6.out
    clear hK K
    try simp only [Act.put, List.setIfInBounds_toArray, List.set_cons_zero, List.set_cons_succ]
    refine wpAnyH_take (i := 10) (oi := { dst := some 27, op := Go.Op.binOp Go.BinOp.neq 9 (Go.Operand.tmp 24) (Go.Operand.tmp 26) 9, type := 4, pos := "law.go:100", after := #[{ on := 7, ground := Go.Ground.data }, { on := 9, ground := Go.Ground.data }, { on := 2, ground := Go.Ground.guard }], guard := some (2, true) }) (v := ?vq10) rfl (by kernel_rfl) (by kernel_rfl) (by kernel_rfl) (fun _ _ _ h => h) (Or.inl ⟨by rfl, ?yq10⟩) (by assumption) ?rq10
    case yq10 => ((intro w hSw; (try dsimp only at hSw); go_simp) <;> with_reducible rfl)
    try simp only [Act.put, List.setIfInBounds_toArray, List.set_cons_zero, List.set_cons_succ]
    refine wpAnyH_take (i := 11) (oi := { dst := some 28, op := Go.Op.pick (Go.Operand.tmp 19) (Go.Operand.tmp 27) (Go.Operand.const (Go.Value.bool false)), type := 4, pos := "law.go:100", after := #[{ on := 2, ground := Go.Ground.data }, { on := 10, ground := Go.Ground.data }], guard := none }) (v := ?vq11) rfl (by kernel_rfl) (by kernel_rfl) (by kernel_rfl) (fun _ _ _ h => h) (Or.inl ⟨by rfl, ?yq11⟩) (by assumption) ?rq11
    case yq11 => ((intro w hSw; (try dsimp only at hSw); go_simp) <;> with_reducible rfl)
    try simp only [Act.put, List.setIfInBounds_toArray, List.set_cons_zero, List.set_cons_succ]
    refine wpAnyH_done (by kernel_rfl) ?_ _
    go_wp2_with fail
    go_meet
    case rel => exact ⟨rfl, D6⟩
  case rest =>
    obtain ⟨rfl, hb⟩ := hcut
    have B4 := btrans B3 hb
    clear hb
    go_wp2
    go_ret
    exact ⟨rfl, B4.out⟩
theorem nil33 (w : World) : Kd.C k33 w none 0 ([] : List S33) := ⟨rfl, by omega, fun h => absurd h (by omega)⟩
set_option maxHeartbeats 8000000 in
set_option maxRecDepth 100000 in
theorem once_low (A0 : Option Addr) (c0 : Nat) (x : Int) (m : Int) (p q : Bool) (w : World) (hr0 : Kd.C (Kd.int .u8) w A0 [x].length [x]) (hc0 : [x].length ≤ c0) (hM : sensor_Mode.f [x] true = some m) (hR : sensor_Routes.f [x] true 8 = some x) (hP : sensor_Power.f [x] true = some (p, q)) (hx0 : 0 ≤ x) (hx1 : x ≤ 255) (hc : x ≤ 2) (h3 : Inp.prt ⟨false, false, false, false, false, false, false, m, p, q, x, []⟩ 3 = some [x]) (h5 : Inp.prt ⟨false, false, false, false, false, false, false, m, p, q, x, []⟩ 5 = some [x]) (h4 : Inp.prt ⟨false, false, false, false, false, false, false, m, p, q, x, []⟩ 4 = some [x]) :
    Calls Try.prog 7 #[.slice A0 1 c0] w fun e w' => e = .returned (.bool true) ∧ Below w.heap.size w w' := by
  have HK : Aside0 (sensor_Counts.f [x] true = some (false, 0, 0, 0, 0)) := ⟨counts_no (by simp)⟩
  have M := Aside0.mk hM
  have R := Aside0.mk hR
  have P := Aside0.mk hP
  have X0 := Aside0.mk hx0
  have X1 := Aside0.mk hx1
  have P3 := Aside0.mk h3
  clear h3
  have P5 := Aside0.mk h5
  clear h5
  have P4 := Aside0.mk h4
  clear h4
  clear hM hR hP hx0 hx1
  have HR0 := Aside0.mk hr0
  have HC0 := Aside0.mk hc0
  clear hr0 hc0
  go_enter Try.func7, Try.ntmps7
  go_wp2_with fail
  refine (small_true _).mono ?_
  rintro e w1 ⟨rfl, hb⟩
  have B1 := Aside0.mk hb
  clear hb
  go_wp2_with fail
  refine (sensor_Counts.calls A0 c0 [x] true false 0 0 0 0 _ (Kd.C_below HR0.out B1.out) HC0.out HK.out).mono ?_
  rintro e w2 ⟨rfl, hb⟩
  have B2 := btrans B1 ⟨hb⟩
  clear hb
  go_upto_region 5 with fail
  obtain ⟨w3, hw3⟩ : ∃ x, x = w2.alloc (.cells #[.bool false, .int .i64 0, .int .i64 0, .int .i64 0, .int .i64 0] 33) := ⟨_, rfl⟩
  have B3 : Aside0 (Below w.heap.size w w3) := by rw [hw3]; exact balloc B2 _
  have HG : Aside0 (w2.heap.size < w3.heap.size) := by rw [hw3]; exact ⟨by simp⟩
  have t0 : w3.cell? ⟨w2.heap.size, 0, none⟩ = some (.bool false) := by rw [hw3]; exact cell_new _ _ _ 0
  have t1 : w3.cell? ⟨w2.heap.size, 1, none⟩ = some (.int .i64 0) := by rw [hw3]; exact cell_new _ _ _ 1
  have t2 : w3.cell? ⟨w2.heap.size, 2, none⟩ = some (.int .i64 0) := by rw [hw3]; exact cell_new _ _ _ 2
  have t3 : w3.cell? ⟨w2.heap.size, 3, none⟩ = some (.int .i64 0) := by rw [hw3]; exact cell_new _ _ _ 3
  have t4 : w3.cell? ⟨w2.heap.size, 4, none⟩ = some (.int .i64 0) := by rw [hw3]; exact cell_new _ _ _ 4
  first | rw [← hw3] | (simp only [← hw3])
  clear hw3
  have hg : w2.heap.size < w3.heap.size := HG.out
  go_cut [28] (fun v W => v = .bool false ∧ Aside0 (Below w3.heap.size w3 W))
  case first =>
    go_quiet (fail)
    go_wp2_with fail
    go_meet
    case rel => exact ⟨rfl, ⟨by repeat (first | exact Below.refl _ _ | apply pw_below_drewN | apply below_drew)⟩⟩
  case rest =>
    obtain ⟨rfl, hb⟩ := hcut
    obtain ⟨w4, rfl⟩ : ∃ y : World, y = wc := ⟨_, rfl⟩
    have B4 := btrans B3 hb
    clear hb t0 t1 t2 t3 t4 hg
    go_wp2_with fail
    refine (sensor_Mode.calls A0 c0 [x] true m _ (Kd.C_below HR0.out B4.out) HC0.out M.out).mono ?_
    rintro e w5 ⟨rfl, hb⟩
    have B5 := btrans B4 ⟨hb.below⟩
    clear hb
    go_wp2_with fail
    refine (sensor_Routes.calls A0 c0 [x] true 8 x _ (Kd.C_below HR0.out B5.out) HC0.out R.out).mono ?_
    rintro e w5a ⟨rfl, hb⟩
    have B5a := btrans B5 ⟨hb⟩
    clear hb
    go_wp2_with fail
    refine (sensor_Power.calls A0 c0 [x] true p q _ (Kd.C_below HR0.out B5a.out) HC0.out P.out).mono ?_
    rintro e w6 ⟨rfl, hb⟩
    have B6 := btrans B5a ⟨hb.below⟩
    clear hb
    go_upto_region 13 with fail
    obtain ⟨w7, hw7⟩ : ∃ y, y = w6.alloc (.cells #[.bool false, .bool false, .bool false, .bool false, .bool false, .bool false, .bool false, .int .i64 m, .bool p, .bool q, .int .i64 x, .slice none 0 0] 38) := ⟨_, rfl⟩
    have B7 : Aside0 (Below w.heap.size w w7) := by rw [hw7]; exact balloc B6 _
    have HG : Aside0 (w6.heap.size < w7.heap.size) := by rw [hw7]; exact ⟨by simp⟩
    have t0 : w7.cell? ⟨w6.heap.size, 0, none⟩ = some (.bool false) := by rw [hw7]; exact cell_new _ _ _ 0
    have t1 : w7.cell? ⟨w6.heap.size, 1, none⟩ = some (.bool false) := by rw [hw7]; exact cell_new _ _ _ 1
    have t2 : w7.cell? ⟨w6.heap.size, 2, none⟩ = some (.bool false) := by rw [hw7]; exact cell_new _ _ _ 2
    have t3 : w7.cell? ⟨w6.heap.size, 3, none⟩ = some (.bool false) := by rw [hw7]; exact cell_new _ _ _ 3
    have t4 : w7.cell? ⟨w6.heap.size, 4, none⟩ = some (.bool false) := by rw [hw7]; exact cell_new _ _ _ 4
    have t5 : w7.cell? ⟨w6.heap.size, 5, none⟩ = some (.bool false) := by rw [hw7]; exact cell_new _ _ _ 5
    have t6 : w7.cell? ⟨w6.heap.size, 6, none⟩ = some (.bool false) := by rw [hw7]; exact cell_new _ _ _ 6
    have t7 : w7.cell? ⟨w6.heap.size, 7, none⟩ = some (.int .i64 m) := by rw [hw7]; exact cell_new _ _ _ 7
    have t8 : w7.cell? ⟨w6.heap.size, 8, none⟩ = some (.bool p) := by rw [hw7]; exact cell_new _ _ _ 8
    have t9 : w7.cell? ⟨w6.heap.size, 9, none⟩ = some (.bool q) := by rw [hw7]; exact cell_new _ _ _ 9
    have t10 : w7.cell? ⟨w6.heap.size, 10, none⟩ = some (.int .i64 x) := by rw [hw7]; exact cell_new _ _ _ 10
    have t11 : w7.cell? ⟨w6.heap.size, 11, none⟩ = some (.slice none 0 0) := by rw [hw7]; exact cell_new _ _ _ 11
    first | rw [← hw7] | (simp only [← hw7])
    clear hw7
    have hg := HG.out
    obtain ⟨ad, eA, hcell⟩ := Kd.at_int HR0.out 0 (by omega) (by simp)
    subst eA
    obtain ⟨s, hs⟩ : ∃ s, s = strOfNums [x] := ⟨_, rfl⟩
    have HS : Aside0 (∀ W, Below w.heap.size w W → (convert 22 9 (.slice (some ad) 1 c0)).run Try.prog W = .ok (.string s) W) := ⟨fun W hW => by rw [hs]; exact Kd.C_string (P := Try.prog) (src := 22) (dst := 9) (e := 5) Try.underlying22 Try.underlying5 Try.underlying9 (Kd.C_below HR0.out hW)⟩
    have hcell2 : w.cell? ad = some (.int .u8 x) := by have e : ad.add 0 = ad := by unfold Addr.add; split <;> simp_all
                                                       rw [← e]; exact hcell
    have SK : Aside0 (∀ W, Below w7.heap.size w7 W → (fun W => (convert 22 9 (.slice (some ad) 1 c0)).run Try.prog W = .ok (.string s) W ∧ W.cell? ad = some (.int .u8 x) ∧ W.cell? ⟨w6.heap.size, 0, none⟩ = some (.bool false) ∧ W.cell? ⟨w6.heap.size, 1, none⟩ = some (.bool false) ∧ W.cell? ⟨w6.heap.size, 2, none⟩ = some (.bool false) ∧ W.cell? ⟨w6.heap.size, 3, none⟩ = some (.bool false) ∧ W.cell? ⟨w6.heap.size, 4, none⟩ = some (.bool false) ∧ W.cell? ⟨w6.heap.size, 5, none⟩ = some (.bool false) ∧ W.cell? ⟨w6.heap.size, 6, none⟩ = some (.bool false) ∧ W.cell? ⟨w6.heap.size, 7, none⟩ = some (.int .i64 m) ∧ W.cell? ⟨w6.heap.size, 8, none⟩ = some (.bool p) ∧ W.cell? ⟨w6.heap.size, 9, none⟩ = some (.bool q) ∧ W.cell? ⟨w6.heap.size, 10, none⟩ = some (.int .i64 x) ∧ W.cell? ⟨w6.heap.size, 11, none⟩ = some (.slice none 0 0)) W) := ⟨fun W hW => ⟨HS.out W (btrans B7 ⟨hW⟩).out, bcellA (btrans B7 ⟨hW⟩) hcell2, bcellA ⟨hW⟩ t0, bcellA ⟨hW⟩ t1, bcellA ⟨hW⟩ t2, bcellA ⟨hW⟩ t3, bcellA ⟨hW⟩ t4, bcellA ⟨hW⟩ t5, bcellA ⟨hW⟩ t6, bcellA ⟨hW⟩ t7, bcellA ⟨hW⟩ t8, bcellA ⟨hW⟩ t9, bcellA ⟨hW⟩ t10, bcellA ⟨hW⟩ t11⟩⟩
    have HSS := Aside0.mk hs
    clear hs hcell hcell2 t0 t1 t2 t3 t4 t5 t6 t7 t8 t9 t10 t11
    have x0 := X0.out
    have x1 := X1.out
    have d2 : decide (2 < x) = false := decide_eq_false (by omega)
    have d3 : decide (3 < x) = false := decide_eq_false (by omega)
    refine wp_region_held_drew (S := (fun W => (convert 22 9 (.slice (some ad) 1 c0)).run Try.prog W = .ok (.string s) W ∧ W.cell? ad = some (.int .u8 x) ∧ W.cell? ⟨w6.heap.size, 0, none⟩ = some (.bool false) ∧ W.cell? ⟨w6.heap.size, 1, none⟩ = some (.bool false) ∧ W.cell? ⟨w6.heap.size, 2, none⟩ = some (.bool false) ∧ W.cell? ⟨w6.heap.size, 3, none⟩ = some (.bool false) ∧ W.cell? ⟨w6.heap.size, 4, none⟩ = some (.bool false) ∧ W.cell? ⟨w6.heap.size, 5, none⟩ = some (.bool false) ∧ W.cell? ⟨w6.heap.size, 6, none⟩ = some (.bool false) ∧ W.cell? ⟨w6.heap.size, 7, none⟩ = some (.int .i64 m) ∧ W.cell? ⟨w6.heap.size, 8, none⟩ = some (.bool p) ∧ W.cell? ⟨w6.heap.size, 9, none⟩ = some (.bool q) ∧ W.cell? ⟨w6.heap.size, 10, none⟩ = some (.int .i64 x) ∧ W.cell? ⟨w6.heap.size, 11, none⟩ = some (.slice none 0 0))) (by kernel_rfl) ?_ (fun hHeld => ?_)
    · exact SK.out _ (by repeat (first | exact Below.refl _ _ | apply pw_below_drewN | apply below_drew | apply below_alloc))
    refine wpAnyH_take (i := 0) (oi := { dst := some 47, op := Go.Op.move (Go.Operand.tmp 3), type := 4, pos := "law.go:110", after := #[], guard := none }) (v := ?vz0) rfl (by kernel_rfl) (by kernel_rfl) (by kernel_rfl) (fun _ _ _ h => h) (Or.inl ⟨by rfl, ?yz0⟩) (by assumption) ?rz0
    case yz0 => ((intro w hSw; (try dsimp only at hSw); go_simp) <;> with_reducible rfl)
    try simp only [Act.put, List.setIfInBounds_toArray, List.set_cons_zero, List.set_cons_succ]
    refine wpAnyH_take (i := 1) (oi := { dst := some 48, op := Go.Op.move (Go.Operand.tmp 47), type := 4, pos := "law.go:110", after := #[{ on := 0, ground := Go.Ground.data }], guard := none }) (v := ?vz1) rfl (by kernel_rfl) (by kernel_rfl) (by kernel_rfl) (fun _ _ _ h => h) (Or.inl ⟨by rfl, ?yz1⟩) (by assumption) ?rz1
    case yz1 => ((intro w hSw; (try dsimp only at hSw); go_simp) <;> with_reducible rfl)
    try simp only [Act.put, List.setIfInBounds_toArray, List.set_cons_zero, List.set_cons_succ]
    refine wpAnyH_take (i := 2) (oi := { dst := some 49, op := Go.Op.move (Go.Operand.tmp 0), type := 22, pos := "law.go:110", after := #[{ on := 1, ground := Go.Ground.guard }], guard := some (1, true) }) (v := ?vz2) rfl (by kernel_rfl) (by kernel_rfl) (by kernel_rfl) (fun _ _ _ h => h) (Or.inl ⟨by rfl, ?yz2⟩) (by assumption) ?rz2
    case yz2 => ((intro w hSw; (try dsimp only at hSw); go_simp) <;> with_reducible rfl)
    try simp only [Act.put, List.setIfInBounds_toArray, List.set_cons_zero, List.set_cons_succ]
    refine wpAnyH_take (i := 3) (oi := { dst := some 50, op := Go.Op.indexAddr 22 (Go.Operand.tmp 49) (Go.Operand.const (Go.Value.int Go.IntKind.i64 0)), type := 0, pos := "law.go:110", after := #[{ on := 2, ground := Go.Ground.data }, { on := 1, ground := Go.Ground.guard }], guard := some (1, true) }) (v := ?vz3) rfl (by kernel_rfl) (by kernel_rfl) (by kernel_rfl) (fun _ _ _ h => h) (Or.inl ⟨by rfl, ?yz3⟩) (by assumption) ?rz3
    case yz3 => ((intro w hSw; (try dsimp only at hSw); go_simp) <;> with_reducible rfl)
    try simp only [Act.put, List.setIfInBounds_toArray, List.set_cons_zero, List.set_cons_succ]
    refine wpAnyH_take (i := 4) (oi := { dst := some 51, op := Go.Op.load 5 (Go.Operand.tmp 50), type := 5, pos := "law.go:110", after := #[{ on := 3, ground := Go.Ground.data }, { on := 1, ground := Go.Ground.guard }], guard := some (1, true) }) (v := ?vz4) rfl (by kernel_rfl) (by kernel_rfl) (by kernel_rfl) (fun _ _ _ h => h) (Or.inl ⟨by rfl, ?yz4⟩) (by assumption) ?rz4
    case yz4 => ((intro w hSw; (try dsimp only at hSw); go_simp) <;> with_reducible rfl)
    try simp only [Act.put, List.setIfInBounds_toArray, List.set_cons_zero, List.set_cons_succ]
    refine wpAnyH_take (i := 5) (oi := { dst := some 52, op := Go.Op.binOp Go.BinOp.gtr 5 (Go.Operand.tmp 51) (Go.Operand.const (Go.Value.int Go.IntKind.u8 2)) 5, type := 4, pos := "law.go:110", after := #[{ on := 4, ground := Go.Ground.data }, { on := 1, ground := Go.Ground.guard }], guard := some (1, true) }) (v := ?vz5) rfl (by kernel_rfl) (by kernel_rfl) (by kernel_rfl) (fun _ _ _ h => h) (Or.inl ⟨by rfl, ?yz5⟩) (by assumption) ?rz5
    case yz5 => ((intro w hSw; (try dsimp only at hSw); go_simp) <;> with_reducible rfl)
    try simp only [Act.put, List.setIfInBounds_toArray, List.set_cons_zero, List.set_cons_succ]
    refine wpAnyH_take (i := 6) (oi := { dst := some 53, op := Go.Op.move (Go.Operand.tmp 52), type := 4, pos := "law.go:110", after := #[{ on := 5, ground := Go.Ground.data }, { on := 1, ground := Go.Ground.chain }, { on := 1, ground := Go.Ground.guard }], guard := some (1, true) }) (v := ?vz6) rfl (by kernel_rfl) (by kernel_rfl) (by kernel_rfl) (fun _ _ _ h => h) (Or.inl ⟨by rfl, ?yz6⟩) (by assumption) ?rz6
    case yz6 => ((intro w hSw; (try dsimp only at hSw); go_simp) <;> with_reducible rfl)
    try simp only [Act.put, List.setIfInBounds_toArray, List.set_cons_zero, List.set_cons_succ]
    refine wpAnyH_take (i := 7) (oi := { dst := some 54, op := Go.Op.load 38 (Go.Operand.tmp 9), type := 38, pos := "law.go:110", after := #[{ on := 6, ground := Go.Ground.guard }], guard := some (6, false) }) (v := ?vz7) rfl (by kernel_rfl) (by kernel_rfl) (by kernel_rfl) (fun _ _ _ h => h) (Or.inl ⟨by rfl, ?yz7⟩) (by assumption) ?rz7
    case yz7 => ((intro w hSw; (try dsimp only at hSw); go_simp) <;> with_reducible rfl)
    try simp only [Act.put, List.setIfInBounds_toArray, List.set_cons_zero, List.set_cons_succ]
    refine wpAnyH_take (i := 10) (oi := { dst := some 57, op := Go.Op.move (Go.Operand.tmp 0), type := 22, pos := "law.go:110", after := #[{ on := 6, ground := Go.Ground.guard }], guard := some (6, false) }) (v := ?vz10) rfl (by kernel_rfl) (by kernel_rfl) (by kernel_rfl) (fun _ _ _ h => h) (Or.inl ⟨by rfl, ?yz10⟩) (by assumption) ?rz10
    case yz10 => ((intro w hSw; (try dsimp only at hSw); go_simp) <;> with_reducible rfl)
    try simp only [Act.put, List.setIfInBounds_toArray, List.set_cons_zero, List.set_cons_succ]
    refine wpAnyH_take (i := 11) (oi := { dst := some 58, op := Go.Op.convert 22 9 (Go.Operand.tmp 57), type := 9, pos := "law.go:110", after := #[{ on := 10, ground := Go.Ground.data }, { on := 6, ground := Go.Ground.guard }], guard := some (6, false) }) (v := ?vz11) rfl (by kernel_rfl) (by kernel_rfl) (by kernel_rfl) (fun _ _ _ h => h) (Or.inl ⟨by rfl, ?yz11⟩) (by assumption) ?rz11
    case yz11 => ((intro w hSw; (try dsimp only at hSw); go_simp) <;> with_reducible rfl)
    try simp only [Act.put, List.setIfInBounds_toArray, List.set_cons_zero, List.set_cons_succ]
    refine wpAnyH_ready (rs := [8]) (by kernel_rfl) (by simp) ?_
    refine AllReadyH.cons (o := { dst := some 55, op := Go.Op.call { callee := Go.Callee.value (Go.Operand.func 23), args := #[Go.Operand.tmp 54, Go.Operand.const (Go.Value.int Go.IntKind.i64 3)], argTypes := #[38, 3] }, type := 22, pos := "law.go:110", after := #[{ on := 7, ground := Go.Ground.data }, { on := 6, ground := Go.Ground.chain }, { on := 6, ground := Go.Ground.guard }], guard := some (6, false) }) rfl (fun K hK => ?kz8) AllReadyH.nil
    go_simp
    refine (prt_calls none 0 false false false false false false false m p q x [] 3 [x] _ (nil33 _) (Nat.le_refl _) P3.out).mono ?_
    rintro e v8 ⟨A8, k8, rfl, hk, hC, b⟩
    have hv8 : (convert 22 9 (.slice A8 1 k8)).run Try.prog v8 = .ok (.string s) v8 := by rw [HSS.out]; exact Kd.C_string (P := Try.prog) (src := 22) (dst := 9) (e := 5) (c := k8) Try.underlying22 Try.underlying5 Try.underlying9 hC
    have D8 : Aside0 (Below w7.heap.size w7 v8) := ⟨below_step (by repeat (first | exact Below.refl _ _ | apply pw_below_drewN | apply below_drew)) b.out⟩
    clear hk hC b
    refine hK.out _ _ ?_ (fun hHeld => ?_)
    · exact SK.out _ D8.out
    clear hK K
    try simp only [Act.put, List.setIfInBounds_toArray, List.set_cons_zero, List.set_cons_succ]
    refine wpAnyH_ready (rs := [9]) (by kernel_rfl) (by simp) ?_
    refine AllReadyH.cons (o := { dst := some 56, op := Go.Op.convert 22 9 (Go.Operand.tmp 55), type := 9, pos := "law.go:110", after := #[{ on := 8, ground := Go.Ground.data }, { on := 6, ground := Go.Ground.guard }], guard := some (6, false) }) rfl (fun K hK => ?kz9) AllReadyH.nil
    go_simp
    refine hK.out _ _ ?_ (fun hHeld => ?_)
    · exact SK.out _ D8.out
    clear hK K
    try simp only [Act.put, List.setIfInBounds_toArray, List.set_cons_zero, List.set_cons_succ]
    refine wpAnyH_take (i := 12) (oi := { dst := some 59, op := Go.Op.binOp Go.BinOp.eql 9 (Go.Operand.tmp 56) (Go.Operand.tmp 58) 9, type := 4, pos := "law.go:110", after := #[{ on := 9, ground := Go.Ground.data }, { on := 11, ground := Go.Ground.data }, { on := 6, ground := Go.Ground.guard }], guard := some (6, false) }) (v := ?vz12) rfl (by kernel_rfl) (by kernel_rfl) (by kernel_rfl) (fun _ _ _ h => h) (Or.inl ⟨by rfl, ?yz12⟩) (by assumption) ?rz12
    case yz12 => ((intro w hSw; (try dsimp only at hSw); go_simp) <;> with_reducible rfl)
    try simp only [Act.put, List.setIfInBounds_toArray, List.set_cons_zero, List.set_cons_succ]
    refine wpAnyH_take (i := 13) (oi := { dst := some 60, op := Go.Op.pick (Go.Operand.tmp 53) (Go.Operand.const (Go.Value.bool true)) (Go.Operand.tmp 59), type := 4, pos := "law.go:110", after := #[{ on := 6, ground := Go.Ground.data }, { on := 12, ground := Go.Ground.data }, { on := 1, ground := Go.Ground.guard }], guard := some (1, true) }) (v := ?vz13) rfl (by kernel_rfl) (by kernel_rfl) (by kernel_rfl) (fun _ _ _ h => h) (Or.inl ⟨by rfl, ?yz13⟩) (by assumption) ?rz13
    case yz13 => ((intro w hSw; (try dsimp only at hSw); go_simp) <;> with_reducible rfl)
    try simp only [Act.put, List.setIfInBounds_toArray, List.set_cons_zero, List.set_cons_succ]
    refine wpAnyH_take (i := 14) (oi := { dst := some 61, op := Go.Op.pick (Go.Operand.tmp 48) (Go.Operand.tmp 60) (Go.Operand.const (Go.Value.bool false)), type := 4, pos := "law.go:110", after := #[{ on := 1, ground := Go.Ground.data }, { on := 13, ground := Go.Ground.data }], guard := none }) (v := ?vz14) rfl (by kernel_rfl) (by kernel_rfl) (by kernel_rfl) (fun _ _ _ h => h) (Or.inl ⟨by rfl, ?yz14⟩) (by assumption) ?rz14
    case yz14 => ((intro w hSw; (try dsimp only at hSw); go_simp) <;> with_reducible rfl)
    try simp only [Act.put, List.setIfInBounds_toArray, List.set_cons_zero, List.set_cons_succ]
    refine wpAnyH_take (i := 15) (oi := { dst := some 62, op := Go.Op.move (Go.Operand.tmp 61), type := 4, pos := "law.go:110", after := #[{ on := 14, ground := Go.Ground.data }, { on := 8, ground := Go.Ground.chain }], guard := none }) (v := ?vz15) rfl (by kernel_rfl) (by kernel_rfl) (by kernel_rfl) (fun _ _ _ h => h) (Or.inl ⟨by rfl, ?yz15⟩) (by assumption) ?rz15
    case yz15 => ((intro w hSw; (try dsimp only at hSw); go_simp) <;> with_reducible rfl)
    try simp only [Act.put, List.setIfInBounds_toArray, List.set_cons_zero, List.set_cons_succ]
    refine wpAnyH_take (i := 16) (oi := { dst := some 63, op := Go.Op.load 38 (Go.Operand.tmp 9), type := 38, pos := "law.go:110", after := #[{ on := 15, ground := Go.Ground.guard }], guard := some (15, true) }) (v := ?vz16) rfl (by kernel_rfl) (by kernel_rfl) (by kernel_rfl) (fun _ _ _ h => h) (Or.inl ⟨by rfl, ?yz16⟩) (by assumption) ?rz16
    case yz16 => ((intro w hSw; (try dsimp only at hSw); go_simp) <;> with_reducible rfl)
    try simp only [Act.put, List.setIfInBounds_toArray, List.set_cons_zero, List.set_cons_succ]
    refine wpAnyH_take (i := 19) (oi := { dst := some 66, op := Go.Op.move (Go.Operand.tmp 0), type := 22, pos := "law.go:110", after := #[{ on := 15, ground := Go.Ground.guard }], guard := some (15, true) }) (v := ?vz19) rfl (by kernel_rfl) (by kernel_rfl) (by kernel_rfl) (fun _ _ _ h => h) (Or.inl ⟨by rfl, ?yz19⟩) (by assumption) ?rz19
    case yz19 => ((intro w hSw; (try dsimp only at hSw); go_simp) <;> with_reducible rfl)
    try simp only [Act.put, List.setIfInBounds_toArray, List.set_cons_zero, List.set_cons_succ]
    refine wpAnyH_take (i := 20) (oi := { dst := some 67, op := Go.Op.convert 22 9 (Go.Operand.tmp 66), type := 9, pos := "law.go:110", after := #[{ on := 19, ground := Go.Ground.data }, { on := 15, ground := Go.Ground.guard }], guard := some (15, true) }) (v := ?vz20) rfl (by kernel_rfl) (by kernel_rfl) (by kernel_rfl) (fun _ _ _ h => h) (Or.inl ⟨by rfl, ?yz20⟩) (by assumption) ?rz20
    case yz20 => ((intro w hSw; (try dsimp only at hSw); go_simp) <;> with_reducible rfl)
    try simp only [Act.put, List.setIfInBounds_toArray, List.set_cons_zero, List.set_cons_succ]
    refine wpAnyH_ready (rs := [17]) (by kernel_rfl) (by simp) ?_
    refine AllReadyH.cons (o := { dst := some 64, op := Go.Op.call { callee := Go.Callee.value (Go.Operand.func 23), args := #[Go.Operand.tmp 63, Go.Operand.const (Go.Value.int Go.IntKind.i64 5)], argTypes := #[38, 3] }, type := 22, pos := "law.go:110", after := #[{ on := 16, ground := Go.Ground.data }, { on := 15, ground := Go.Ground.chain }, { on := 15, ground := Go.Ground.guard }], guard := some (15, true) }) rfl (fun K hK => ?kz17) AllReadyH.nil
    go_simp
    refine (prt_calls none 0 false false false false false false false m p q x [] 5 [x] _ (nil33 _) (Nat.le_refl _) P5.out).mono ?_
    rintro e v17 ⟨A17, k17, rfl, hk, hC, b⟩
    have hv17 : (convert 22 9 (.slice A17 1 k17)).run Try.prog v17 = .ok (.string s) v17 := by rw [HSS.out]; exact Kd.C_string (P := Try.prog) (src := 22) (dst := 9) (e := 5) (c := k17) Try.underlying22 Try.underlying5 Try.underlying9 hC
    have D17 : Aside0 (Below w7.heap.size w7 v17) := ⟨below_step D8.out b.out⟩
    clear hk hC b
    refine hK.out _ _ ?_ (fun hHeld => ?_)
    · exact SK.out _ D17.out
    clear hK K
    try simp only [Act.put, List.setIfInBounds_toArray, List.set_cons_zero, List.set_cons_succ]
    refine wpAnyH_ready (rs := [18]) (by kernel_rfl) (by simp) ?_
    refine AllReadyH.cons (o := { dst := some 65, op := Go.Op.convert 22 9 (Go.Operand.tmp 64), type := 9, pos := "law.go:110", after := #[{ on := 17, ground := Go.Ground.data }, { on := 15, ground := Go.Ground.guard }], guard := some (15, true) }) rfl (fun K hK => ?kz18) AllReadyH.nil
    go_simp
    refine hK.out _ _ ?_ (fun hHeld => ?_)
    · exact SK.out _ D17.out
    clear hK K
    try simp only [Act.put, List.setIfInBounds_toArray, List.set_cons_zero, List.set_cons_succ]
    refine wpAnyH_take (i := 21) (oi := { dst := some 68, op := Go.Op.binOp Go.BinOp.eql 9 (Go.Operand.tmp 65) (Go.Operand.tmp 67) 9, type := 4, pos := "law.go:110", after := #[{ on := 18, ground := Go.Ground.data }, { on := 20, ground := Go.Ground.data }, { on := 15, ground := Go.Ground.guard }], guard := some (15, true) }) (v := ?vz21) rfl (by kernel_rfl) (by kernel_rfl) (by kernel_rfl) (fun _ _ _ h => h) (Or.inl ⟨by rfl, ?yz21⟩) (by assumption) ?rz21
    case yz21 => ((intro w hSw; (try dsimp only at hSw); go_simp) <;> with_reducible rfl)
    try simp only [Act.put, List.setIfInBounds_toArray, List.set_cons_zero, List.set_cons_succ]
    refine wpAnyH_take (i := 22) (oi := { dst := some 69, op := Go.Op.pick (Go.Operand.tmp 62) (Go.Operand.tmp 68) (Go.Operand.const (Go.Value.bool false)), type := 4, pos := "law.go:110", after := #[{ on := 15, ground := Go.Ground.data }, { on := 21, ground := Go.Ground.data }], guard := none }) (v := ?vz22) rfl (by kernel_rfl) (by kernel_rfl) (by kernel_rfl) (fun _ _ _ h => h) (Or.inl ⟨by rfl, ?yz22⟩) (by assumption) ?rz22
    case yz22 => ((intro w hSw; (try dsimp only at hSw); go_simp) <;> with_reducible rfl)
    try simp only [Act.put, List.setIfInBounds_toArray, List.set_cons_zero, List.set_cons_succ]
    refine wpAnyH_take (i := 23) (oi := { dst := some 70, op := Go.Op.move (Go.Operand.tmp 69), type := 4, pos := "law.go:110", after := #[{ on := 22, ground := Go.Ground.data }, { on := 17, ground := Go.Ground.chain }], guard := none }) (v := ?vz23) rfl (by kernel_rfl) (by kernel_rfl) (by kernel_rfl) (fun _ _ _ h => h) (Or.inl ⟨by rfl, ?yz23⟩) (by assumption) ?rz23
    case yz23 => ((intro w hSw; (try dsimp only at hSw); go_simp) <;> with_reducible rfl)
    try simp only [Act.put, List.setIfInBounds_toArray, List.set_cons_zero, List.set_cons_succ]
    refine wpAnyH_take (i := 24) (oi := { dst := some 71, op := Go.Op.move (Go.Operand.tmp 0), type := 22, pos := "law.go:110", after := #[{ on := 23, ground := Go.Ground.guard }], guard := some (23, true) }) (v := ?vz24) rfl (by kernel_rfl) (by kernel_rfl) (by kernel_rfl) (fun _ _ _ h => h) (Or.inl ⟨by rfl, ?yz24⟩) (by assumption) ?rz24
    case yz24 => ((intro w hSw; (try dsimp only at hSw); go_simp) <;> with_reducible rfl)
    try simp only [Act.put, List.setIfInBounds_toArray, List.set_cons_zero, List.set_cons_succ]
    refine wpAnyH_take (i := 25) (oi := { dst := some 72, op := Go.Op.indexAddr 22 (Go.Operand.tmp 71) (Go.Operand.const (Go.Value.int Go.IntKind.i64 0)), type := 0, pos := "law.go:110", after := #[{ on := 24, ground := Go.Ground.data }, { on := 23, ground := Go.Ground.guard }], guard := some (23, true) }) (v := ?vz25) rfl (by kernel_rfl) (by kernel_rfl) (by kernel_rfl) (fun _ _ _ h => h) (Or.inl ⟨by rfl, ?yz25⟩) (by assumption) ?rz25
    case yz25 => ((intro w hSw; (try dsimp only at hSw); go_simp) <;> with_reducible rfl)
    try simp only [Act.put, List.setIfInBounds_toArray, List.set_cons_zero, List.set_cons_succ]
    refine wpAnyH_take (i := 26) (oi := { dst := some 73, op := Go.Op.load 5 (Go.Operand.tmp 72), type := 5, pos := "law.go:110", after := #[{ on := 25, ground := Go.Ground.data }, { on := 23, ground := Go.Ground.guard }], guard := some (23, true) }) (v := ?vz26) rfl (by kernel_rfl) (by kernel_rfl) (by kernel_rfl) (fun _ _ _ h => h) (Or.inl ⟨by rfl, ?yz26⟩) (by assumption) ?rz26
    case yz26 => ((intro w hSw; (try dsimp only at hSw); go_simp) <;> with_reducible rfl)
    try simp only [Act.put, List.setIfInBounds_toArray, List.set_cons_zero, List.set_cons_succ]
    refine wpAnyH_take (i := 27) (oi := { dst := some 74, op := Go.Op.binOp Go.BinOp.gtr 5 (Go.Operand.tmp 73) (Go.Operand.const (Go.Value.int Go.IntKind.u8 3)) 5, type := 4, pos := "law.go:110", after := #[{ on := 26, ground := Go.Ground.data }, { on := 23, ground := Go.Ground.guard }], guard := some (23, true) }) (v := ?vz27) rfl (by kernel_rfl) (by kernel_rfl) (by kernel_rfl) (fun _ _ _ h => h) (Or.inl ⟨by rfl, ?yz27⟩) (by assumption) ?rz27
    case yz27 => ((intro w hSw; (try dsimp only at hSw); go_simp) <;> with_reducible rfl)
    try simp only [Act.put, List.setIfInBounds_toArray, List.set_cons_zero, List.set_cons_succ]
    refine wpAnyH_take (i := 28) (oi := { dst := some 75, op := Go.Op.move (Go.Operand.tmp 74), type := 4, pos := "law.go:110", after := #[{ on := 27, ground := Go.Ground.data }, { on := 23, ground := Go.Ground.chain }, { on := 23, ground := Go.Ground.guard }], guard := some (23, true) }) (v := ?vz28) rfl (by kernel_rfl) (by kernel_rfl) (by kernel_rfl) (fun _ _ _ h => h) (Or.inl ⟨by rfl, ?yz28⟩) (by assumption) ?rz28
    case yz28 => ((intro w hSw; (try dsimp only at hSw); go_simp) <;> with_reducible rfl)
    try simp only [Act.put, List.setIfInBounds_toArray, List.set_cons_zero, List.set_cons_succ]
    refine wpAnyH_take (i := 29) (oi := { dst := some 76, op := Go.Op.load 38 (Go.Operand.tmp 9), type := 38, pos := "law.go:110", after := #[{ on := 28, ground := Go.Ground.guard }], guard := some (28, false) }) (v := ?vz29) rfl (by kernel_rfl) (by kernel_rfl) (by kernel_rfl) (fun _ _ _ h => h) (Or.inl ⟨by rfl, ?yz29⟩) (by assumption) ?rz29
    case yz29 => ((intro w hSw; (try dsimp only at hSw); go_simp) <;> with_reducible rfl)
    try simp only [Act.put, List.setIfInBounds_toArray, List.set_cons_zero, List.set_cons_succ]
    refine wpAnyH_take (i := 32) (oi := { dst := some 79, op := Go.Op.move (Go.Operand.tmp 0), type := 22, pos := "law.go:110", after := #[{ on := 28, ground := Go.Ground.guard }], guard := some (28, false) }) (v := ?vz32) rfl (by kernel_rfl) (by kernel_rfl) (by kernel_rfl) (fun _ _ _ h => h) (Or.inl ⟨by rfl, ?yz32⟩) (by assumption) ?rz32
    case yz32 => ((intro w hSw; (try dsimp only at hSw); go_simp) <;> with_reducible rfl)
    try simp only [Act.put, List.setIfInBounds_toArray, List.set_cons_zero, List.set_cons_succ]
    refine wpAnyH_take (i := 33) (oi := { dst := some 80, op := Go.Op.convert 22 9 (Go.Operand.tmp 79), type := 9, pos := "law.go:110", after := #[{ on := 32, ground := Go.Ground.data }, { on := 28, ground := Go.Ground.guard }], guard := some (28, false) }) (v := ?vz33) rfl (by kernel_rfl) (by kernel_rfl) (by kernel_rfl) (fun _ _ _ h => h) (Or.inl ⟨by rfl, ?yz33⟩) (by assumption) ?rz33
    case yz33 => ((intro w hSw; (try dsimp only at hSw); go_simp) <;> with_reducible rfl)
    try simp only [Act.put, List.setIfInBounds_toArray, List.set_cons_zero, List.set_cons_succ]
    refine wpAnyH_ready (rs := [30]) (by kernel_rfl) (by simp) ?_
    refine AllReadyH.cons (o := { dst := some 77, op := Go.Op.call { callee := Go.Callee.value (Go.Operand.func 23), args := #[Go.Operand.tmp 76, Go.Operand.const (Go.Value.int Go.IntKind.i64 4)], argTypes := #[38, 3] }, type := 22, pos := "law.go:110", after := #[{ on := 29, ground := Go.Ground.data }, { on := 28, ground := Go.Ground.chain }, { on := 28, ground := Go.Ground.guard }], guard := some (28, false) }) rfl (fun K hK => ?kz30) AllReadyH.nil
    go_simp
    refine (prt_calls none 0 false false false false false false false m p q x [] 4 [x] _ (nil33 _) (Nat.le_refl _) P4.out).mono ?_
    rintro e v30 ⟨A30, k30, rfl, hk, hC, b⟩
    have hv30 : (convert 22 9 (.slice A30 1 k30)).run Try.prog v30 = .ok (.string s) v30 := by rw [HSS.out]; exact Kd.C_string (P := Try.prog) (src := 22) (dst := 9) (e := 5) (c := k30) Try.underlying22 Try.underlying5 Try.underlying9 hC
    have D30 : Aside0 (Below w7.heap.size w7 v30) := ⟨below_step D17.out b.out⟩
    clear hk hC b
    refine hK.out _ _ ?_ (fun hHeld => ?_)
    · exact SK.out _ D30.out
    clear hK K
    try simp only [Act.put, List.setIfInBounds_toArray, List.set_cons_zero, List.set_cons_succ]
    refine wpAnyH_ready (rs := [31]) (by kernel_rfl) (by simp) ?_
    refine AllReadyH.cons (o := { dst := some 78, op := Go.Op.convert 22 9 (Go.Operand.tmp 77), type := 9, pos := "law.go:110", after := #[{ on := 30, ground := Go.Ground.data }, { on := 28, ground := Go.Ground.guard }], guard := some (28, false) }) rfl (fun K hK => ?kz31) AllReadyH.nil
    go_simp
    refine hK.out _ _ ?_ (fun hHeld => ?_)
    · exact SK.out _ D30.out
    clear hK K
    try simp only [Act.put, List.setIfInBounds_toArray, List.set_cons_zero, List.set_cons_succ]
    refine wpAnyH_take (i := 34) (oi := { dst := some 81, op := Go.Op.binOp Go.BinOp.eql 9 (Go.Operand.tmp 78) (Go.Operand.tmp 80) 9, type := 4, pos := "law.go:110", after := #[{ on := 31, ground := Go.Ground.data }, { on := 33, ground := Go.Ground.data }, { on := 28, ground := Go.Ground.guard }], guard := some (28, false) }) (v := ?vz34) rfl (by kernel_rfl) (by kernel_rfl) (by kernel_rfl) (fun _ _ _ h => h) (Or.inl ⟨by rfl, ?yz34⟩) (by assumption) ?rz34
    case yz34 => ((intro w hSw; (try dsimp only at hSw); go_simp) <;> with_reducible rfl)
    try simp only [Act.put, List.setIfInBounds_toArray, List.set_cons_zero, List.set_cons_succ]
    refine wpAnyH_take (i := 35) (oi := { dst := some 82, op := Go.Op.pick (Go.Operand.tmp 75) (Go.Operand.const (Go.Value.bool true)) (Go.Operand.tmp 81), type := 4, pos := "law.go:110", after := #[{ on := 28, ground := Go.Ground.data }, { on := 34, ground := Go.Ground.data }, { on := 23, ground := Go.Ground.guard }], guard := some (23, true) }) (v := ?vz35) rfl (by kernel_rfl) (by kernel_rfl) (by kernel_rfl) (fun _ _ _ h => h) (Or.inl ⟨by rfl, ?yz35⟩) (by assumption) ?rz35
    case yz35 => ((intro w hSw; (try dsimp only at hSw); go_simp) <;> with_reducible rfl)
    try simp only [Act.put, List.setIfInBounds_toArray, List.set_cons_zero, List.set_cons_succ]
    refine wpAnyH_take (i := 36) (oi := { dst := some 83, op := Go.Op.pick (Go.Operand.tmp 70) (Go.Operand.tmp 82) (Go.Operand.const (Go.Value.bool false)), type := 4, pos := "law.go:110", after := #[{ on := 23, ground := Go.Ground.data }, { on := 35, ground := Go.Ground.data }], guard := none }) (v := ?vz36) rfl (by kernel_rfl) (by kernel_rfl) (by kernel_rfl) (fun _ _ _ h => h) (Or.inl ⟨by rfl, ?yz36⟩) (by assumption) ?rz36
    case yz36 => ((intro w hSw; (try dsimp only at hSw); go_simp) <;> with_reducible rfl)
    try simp only [Act.put, List.setIfInBounds_toArray, List.set_cons_zero, List.set_cons_succ]
    refine wpAnyH_take (i := 37) (oi := { dst := some 2, op := Go.Op.assign (Go.Operand.tmp 83), type := 4, pos := "law.go:110", after := #[{ on := 36, ground := Go.Ground.data }, { on := 30, ground := Go.Ground.chain }, { on := 0, ground := Go.Ground.phase }, { on := 1, ground := Go.Ground.phase }, { on := 2, ground := Go.Ground.phase }, { on := 3, ground := Go.Ground.phase }, { on := 4, ground := Go.Ground.phase }, { on := 5, ground := Go.Ground.phase }, { on := 6, ground := Go.Ground.phase }, { on := 7, ground := Go.Ground.phase }, { on := 8, ground := Go.Ground.phase }, { on := 9, ground := Go.Ground.phase }, { on := 10, ground := Go.Ground.phase }, { on := 11, ground := Go.Ground.phase }, { on := 12, ground := Go.Ground.phase }, { on := 13, ground := Go.Ground.phase }, { on := 14, ground := Go.Ground.phase }, { on := 15, ground := Go.Ground.phase }, { on := 16, ground := Go.Ground.phase }, { on := 17, ground := Go.Ground.phase }, { on := 18, ground := Go.Ground.phase }, { on := 19, ground := Go.Ground.phase }, { on := 20, ground := Go.Ground.phase }, { on := 21, ground := Go.Ground.phase }, { on := 22, ground := Go.Ground.phase }, { on := 23, ground := Go.Ground.phase }, { on := 24, ground := Go.Ground.phase }, { on := 25, ground := Go.Ground.phase }, { on := 26, ground := Go.Ground.phase }, { on := 27, ground := Go.Ground.phase }, { on := 28, ground := Go.Ground.phase }, { on := 29, ground := Go.Ground.phase }, { on := 30, ground := Go.Ground.phase }, { on := 31, ground := Go.Ground.phase }, { on := 32, ground := Go.Ground.phase }, { on := 33, ground := Go.Ground.phase }, { on := 34, ground := Go.Ground.phase }, { on := 35, ground := Go.Ground.phase }, { on := 36, ground := Go.Ground.phase }], guard := none }) (v := ?vz37) rfl (by kernel_rfl) (by kernel_rfl) (by kernel_rfl) (fun _ _ _ h => h) (Or.inl ⟨by rfl, ?yz37⟩) (by assumption) ?rz37
    case yz37 => ((intro w hSw; (try dsimp only at hSw); go_simp) <;> with_reducible rfl)
    try simp only [Act.put, List.setIfInBounds_toArray, List.set_cons_zero, List.set_cons_succ]
    refine wpAnyH_done (by kernel_rfl) ?_ _
    have BE := btrans B7 D30
    go_wp2
    go_ret
    exact ⟨rfl, BE.out⟩
set_option maxHeartbeats 8000000 in
set_option maxRecDepth 100000 in
theorem once_mid (A0 : Option Addr) (c0 : Nat) (x : Int) (m : Int) (p q : Bool) (w : World) (hr0 : Kd.C (Kd.int .u8) w A0 [x].length [x]) (hc0 : [x].length ≤ c0) (hM : sensor_Mode.f [x] true = some m) (hR : sensor_Routes.f [x] true 8 = some x) (hP : sensor_Power.f [x] true = some (p, q)) (hx0 : 0 ≤ x) (hx1 : x ≤ 255) (hc : 3 ≤ x) (hc2 : x ≤ 3) (h5 : Inp.prt ⟨false, false, false, false, false, false, false, m, p, q, x, []⟩ 5 = some [x]) (h4 : Inp.prt ⟨false, false, false, false, false, false, false, m, p, q, x, []⟩ 4 = some [x]) :
    Calls Try.prog 7 #[.slice A0 1 c0] w fun e w' => e = .returned (.bool true) ∧ Below w.heap.size w w' := by
  have HK : Aside0 (sensor_Counts.f [x] true = some (false, 0, 0, 0, 0)) := ⟨counts_no (by simp)⟩
  have M := Aside0.mk hM
  have R := Aside0.mk hR
  have P := Aside0.mk hP
  have X0 := Aside0.mk hx0
  have X1 := Aside0.mk hx1
  have P5 := Aside0.mk h5
  clear h5
  have P4 := Aside0.mk h4
  clear h4
  clear hM hR hP hx0 hx1
  have HR0 := Aside0.mk hr0
  have HC0 := Aside0.mk hc0
  clear hr0 hc0
  go_enter Try.func7, Try.ntmps7
  go_wp2_with fail
  refine (small_true _).mono ?_
  rintro e w1 ⟨rfl, hb⟩
  have B1 := Aside0.mk hb
  clear hb
  go_wp2_with fail
  refine (sensor_Counts.calls A0 c0 [x] true false 0 0 0 0 _ (Kd.C_below HR0.out B1.out) HC0.out HK.out).mono ?_
  rintro e w2 ⟨rfl, hb⟩
  have B2 := btrans B1 ⟨hb⟩
  clear hb
  go_upto_region 5 with fail
  obtain ⟨w3, hw3⟩ : ∃ x, x = w2.alloc (.cells #[.bool false, .int .i64 0, .int .i64 0, .int .i64 0, .int .i64 0] 33) := ⟨_, rfl⟩
  have B3 : Aside0 (Below w.heap.size w w3) := by rw [hw3]; exact balloc B2 _
  have HG : Aside0 (w2.heap.size < w3.heap.size) := by rw [hw3]; exact ⟨by simp⟩
  have t0 : w3.cell? ⟨w2.heap.size, 0, none⟩ = some (.bool false) := by rw [hw3]; exact cell_new _ _ _ 0
  have t1 : w3.cell? ⟨w2.heap.size, 1, none⟩ = some (.int .i64 0) := by rw [hw3]; exact cell_new _ _ _ 1
  have t2 : w3.cell? ⟨w2.heap.size, 2, none⟩ = some (.int .i64 0) := by rw [hw3]; exact cell_new _ _ _ 2
  have t3 : w3.cell? ⟨w2.heap.size, 3, none⟩ = some (.int .i64 0) := by rw [hw3]; exact cell_new _ _ _ 3
  have t4 : w3.cell? ⟨w2.heap.size, 4, none⟩ = some (.int .i64 0) := by rw [hw3]; exact cell_new _ _ _ 4
  first | rw [← hw3] | (simp only [← hw3])
  clear hw3
  have hg : w2.heap.size < w3.heap.size := HG.out
  go_cut [28] (fun v W => v = .bool false ∧ Aside0 (Below w3.heap.size w3 W))
  case first =>
    go_quiet (fail)
    go_wp2_with fail
    go_meet
    case rel => exact ⟨rfl, ⟨by repeat (first | exact Below.refl _ _ | apply pw_below_drewN | apply below_drew)⟩⟩
  case rest =>
    obtain ⟨rfl, hb⟩ := hcut
    obtain ⟨w4, rfl⟩ : ∃ y : World, y = wc := ⟨_, rfl⟩
    have B4 := btrans B3 hb
    clear hb t0 t1 t2 t3 t4 hg
    go_wp2_with fail
    refine (sensor_Mode.calls A0 c0 [x] true m _ (Kd.C_below HR0.out B4.out) HC0.out M.out).mono ?_
    rintro e w5 ⟨rfl, hb⟩
    have B5 := btrans B4 ⟨hb.below⟩
    clear hb
    go_wp2_with fail
    refine (sensor_Routes.calls A0 c0 [x] true 8 x _ (Kd.C_below HR0.out B5.out) HC0.out R.out).mono ?_
    rintro e w5a ⟨rfl, hb⟩
    have B5a := btrans B5 ⟨hb⟩
    clear hb
    go_wp2_with fail
    refine (sensor_Power.calls A0 c0 [x] true p q _ (Kd.C_below HR0.out B5a.out) HC0.out P.out).mono ?_
    rintro e w6 ⟨rfl, hb⟩
    have B6 := btrans B5a ⟨hb.below⟩
    clear hb
    go_upto_region 13 with fail
    obtain ⟨w7, hw7⟩ : ∃ y, y = w6.alloc (.cells #[.bool false, .bool false, .bool false, .bool false, .bool false, .bool false, .bool false, .int .i64 m, .bool p, .bool q, .int .i64 x, .slice none 0 0] 38) := ⟨_, rfl⟩
    have B7 : Aside0 (Below w.heap.size w w7) := by rw [hw7]; exact balloc B6 _
    have HG : Aside0 (w6.heap.size < w7.heap.size) := by rw [hw7]; exact ⟨by simp⟩
    have t0 : w7.cell? ⟨w6.heap.size, 0, none⟩ = some (.bool false) := by rw [hw7]; exact cell_new _ _ _ 0
    have t1 : w7.cell? ⟨w6.heap.size, 1, none⟩ = some (.bool false) := by rw [hw7]; exact cell_new _ _ _ 1
    have t2 : w7.cell? ⟨w6.heap.size, 2, none⟩ = some (.bool false) := by rw [hw7]; exact cell_new _ _ _ 2
    have t3 : w7.cell? ⟨w6.heap.size, 3, none⟩ = some (.bool false) := by rw [hw7]; exact cell_new _ _ _ 3
    have t4 : w7.cell? ⟨w6.heap.size, 4, none⟩ = some (.bool false) := by rw [hw7]; exact cell_new _ _ _ 4
    have t5 : w7.cell? ⟨w6.heap.size, 5, none⟩ = some (.bool false) := by rw [hw7]; exact cell_new _ _ _ 5
    have t6 : w7.cell? ⟨w6.heap.size, 6, none⟩ = some (.bool false) := by rw [hw7]; exact cell_new _ _ _ 6
    have t7 : w7.cell? ⟨w6.heap.size, 7, none⟩ = some (.int .i64 m) := by rw [hw7]; exact cell_new _ _ _ 7
    have t8 : w7.cell? ⟨w6.heap.size, 8, none⟩ = some (.bool p) := by rw [hw7]; exact cell_new _ _ _ 8
    have t9 : w7.cell? ⟨w6.heap.size, 9, none⟩ = some (.bool q) := by rw [hw7]; exact cell_new _ _ _ 9
    have t10 : w7.cell? ⟨w6.heap.size, 10, none⟩ = some (.int .i64 x) := by rw [hw7]; exact cell_new _ _ _ 10
    have t11 : w7.cell? ⟨w6.heap.size, 11, none⟩ = some (.slice none 0 0) := by rw [hw7]; exact cell_new _ _ _ 11
    first | rw [← hw7] | (simp only [← hw7])
    clear hw7
    have hg := HG.out
    obtain ⟨ad, eA, hcell⟩ := Kd.at_int HR0.out 0 (by omega) (by simp)
    subst eA
    obtain ⟨s, hs⟩ : ∃ s, s = strOfNums [x] := ⟨_, rfl⟩
    have HS : Aside0 (∀ W, Below w.heap.size w W → (convert 22 9 (.slice (some ad) 1 c0)).run Try.prog W = .ok (.string s) W) := ⟨fun W hW => by rw [hs]; exact Kd.C_string (P := Try.prog) (src := 22) (dst := 9) (e := 5) Try.underlying22 Try.underlying5 Try.underlying9 (Kd.C_below HR0.out hW)⟩
    have hcell2 : w.cell? ad = some (.int .u8 x) := by have e : ad.add 0 = ad := by unfold Addr.add; split <;> simp_all
                                                       rw [← e]; exact hcell
    have SK : Aside0 (∀ W, Below w7.heap.size w7 W → (fun W => (convert 22 9 (.slice (some ad) 1 c0)).run Try.prog W = .ok (.string s) W ∧ W.cell? ad = some (.int .u8 x) ∧ W.cell? ⟨w6.heap.size, 0, none⟩ = some (.bool false) ∧ W.cell? ⟨w6.heap.size, 1, none⟩ = some (.bool false) ∧ W.cell? ⟨w6.heap.size, 2, none⟩ = some (.bool false) ∧ W.cell? ⟨w6.heap.size, 3, none⟩ = some (.bool false) ∧ W.cell? ⟨w6.heap.size, 4, none⟩ = some (.bool false) ∧ W.cell? ⟨w6.heap.size, 5, none⟩ = some (.bool false) ∧ W.cell? ⟨w6.heap.size, 6, none⟩ = some (.bool false) ∧ W.cell? ⟨w6.heap.size, 7, none⟩ = some (.int .i64 m) ∧ W.cell? ⟨w6.heap.size, 8, none⟩ = some (.bool p) ∧ W.cell? ⟨w6.heap.size, 9, none⟩ = some (.bool q) ∧ W.cell? ⟨w6.heap.size, 10, none⟩ = some (.int .i64 x) ∧ W.cell? ⟨w6.heap.size, 11, none⟩ = some (.slice none 0 0)) W) := ⟨fun W hW => ⟨HS.out W (btrans B7 ⟨hW⟩).out, bcellA (btrans B7 ⟨hW⟩) hcell2, bcellA ⟨hW⟩ t0, bcellA ⟨hW⟩ t1, bcellA ⟨hW⟩ t2, bcellA ⟨hW⟩ t3, bcellA ⟨hW⟩ t4, bcellA ⟨hW⟩ t5, bcellA ⟨hW⟩ t6, bcellA ⟨hW⟩ t7, bcellA ⟨hW⟩ t8, bcellA ⟨hW⟩ t9, bcellA ⟨hW⟩ t10, bcellA ⟨hW⟩ t11⟩⟩
    have HSS := Aside0.mk hs
    clear hs hcell hcell2 t0 t1 t2 t3 t4 t5 t6 t7 t8 t9 t10 t11
    have x0 := X0.out
    have x1 := X1.out
    have d2 : decide (2 < x) = true := decide_eq_true (by omega)
    have d3 : decide (3 < x) = false := decide_eq_false (by omega)
    refine wp_region_held_drew (S := (fun W => (convert 22 9 (.slice (some ad) 1 c0)).run Try.prog W = .ok (.string s) W ∧ W.cell? ad = some (.int .u8 x) ∧ W.cell? ⟨w6.heap.size, 0, none⟩ = some (.bool false) ∧ W.cell? ⟨w6.heap.size, 1, none⟩ = some (.bool false) ∧ W.cell? ⟨w6.heap.size, 2, none⟩ = some (.bool false) ∧ W.cell? ⟨w6.heap.size, 3, none⟩ = some (.bool false) ∧ W.cell? ⟨w6.heap.size, 4, none⟩ = some (.bool false) ∧ W.cell? ⟨w6.heap.size, 5, none⟩ = some (.bool false) ∧ W.cell? ⟨w6.heap.size, 6, none⟩ = some (.bool false) ∧ W.cell? ⟨w6.heap.size, 7, none⟩ = some (.int .i64 m) ∧ W.cell? ⟨w6.heap.size, 8, none⟩ = some (.bool p) ∧ W.cell? ⟨w6.heap.size, 9, none⟩ = some (.bool q) ∧ W.cell? ⟨w6.heap.size, 10, none⟩ = some (.int .i64 x) ∧ W.cell? ⟨w6.heap.size, 11, none⟩ = some (.slice none 0 0))) (by kernel_rfl) ?_ (fun hHeld => ?_)
    · exact SK.out _ (by repeat (first | exact Below.refl _ _ | apply pw_below_drewN | apply below_drew | apply below_alloc))
    refine wpAnyH_take (i := 0) (oi := { dst := some 47, op := Go.Op.move (Go.Operand.tmp 3), type := 4, pos := "law.go:110", after := #[], guard := none }) (v := ?vz0) rfl (by kernel_rfl) (by kernel_rfl) (by kernel_rfl) (fun _ _ _ h => h) (Or.inl ⟨by rfl, ?yz0⟩) (by assumption) ?rz0
    case yz0 => ((intro w hSw; (try dsimp only at hSw); go_simp) <;> with_reducible rfl)
    try simp only [Act.put, List.setIfInBounds_toArray, List.set_cons_zero, List.set_cons_succ]
    refine wpAnyH_take (i := 1) (oi := { dst := some 48, op := Go.Op.move (Go.Operand.tmp 47), type := 4, pos := "law.go:110", after := #[{ on := 0, ground := Go.Ground.data }], guard := none }) (v := ?vz1) rfl (by kernel_rfl) (by kernel_rfl) (by kernel_rfl) (fun _ _ _ h => h) (Or.inl ⟨by rfl, ?yz1⟩) (by assumption) ?rz1
    case yz1 => ((intro w hSw; (try dsimp only at hSw); go_simp) <;> with_reducible rfl)
    try simp only [Act.put, List.setIfInBounds_toArray, List.set_cons_zero, List.set_cons_succ]
    refine wpAnyH_take (i := 2) (oi := { dst := some 49, op := Go.Op.move (Go.Operand.tmp 0), type := 22, pos := "law.go:110", after := #[{ on := 1, ground := Go.Ground.guard }], guard := some (1, true) }) (v := ?vz2) rfl (by kernel_rfl) (by kernel_rfl) (by kernel_rfl) (fun _ _ _ h => h) (Or.inl ⟨by rfl, ?yz2⟩) (by assumption) ?rz2
    case yz2 => ((intro w hSw; (try dsimp only at hSw); go_simp) <;> with_reducible rfl)
    try simp only [Act.put, List.setIfInBounds_toArray, List.set_cons_zero, List.set_cons_succ]
    refine wpAnyH_take (i := 3) (oi := { dst := some 50, op := Go.Op.indexAddr 22 (Go.Operand.tmp 49) (Go.Operand.const (Go.Value.int Go.IntKind.i64 0)), type := 0, pos := "law.go:110", after := #[{ on := 2, ground := Go.Ground.data }, { on := 1, ground := Go.Ground.guard }], guard := some (1, true) }) (v := ?vz3) rfl (by kernel_rfl) (by kernel_rfl) (by kernel_rfl) (fun _ _ _ h => h) (Or.inl ⟨by rfl, ?yz3⟩) (by assumption) ?rz3
    case yz3 => ((intro w hSw; (try dsimp only at hSw); go_simp) <;> with_reducible rfl)
    try simp only [Act.put, List.setIfInBounds_toArray, List.set_cons_zero, List.set_cons_succ]
    refine wpAnyH_take (i := 4) (oi := { dst := some 51, op := Go.Op.load 5 (Go.Operand.tmp 50), type := 5, pos := "law.go:110", after := #[{ on := 3, ground := Go.Ground.data }, { on := 1, ground := Go.Ground.guard }], guard := some (1, true) }) (v := ?vz4) rfl (by kernel_rfl) (by kernel_rfl) (by kernel_rfl) (fun _ _ _ h => h) (Or.inl ⟨by rfl, ?yz4⟩) (by assumption) ?rz4
    case yz4 => ((intro w hSw; (try dsimp only at hSw); go_simp) <;> with_reducible rfl)
    try simp only [Act.put, List.setIfInBounds_toArray, List.set_cons_zero, List.set_cons_succ]
    refine wpAnyH_take (i := 5) (oi := { dst := some 52, op := Go.Op.binOp Go.BinOp.gtr 5 (Go.Operand.tmp 51) (Go.Operand.const (Go.Value.int Go.IntKind.u8 2)) 5, type := 4, pos := "law.go:110", after := #[{ on := 4, ground := Go.Ground.data }, { on := 1, ground := Go.Ground.guard }], guard := some (1, true) }) (v := ?vz5) rfl (by kernel_rfl) (by kernel_rfl) (by kernel_rfl) (fun _ _ _ h => h) (Or.inl ⟨by rfl, ?yz5⟩) (by assumption) ?rz5
    case yz5 => ((intro w hSw; (try dsimp only at hSw); go_simp) <;> with_reducible rfl)
    try simp only [Act.put, List.setIfInBounds_toArray, List.set_cons_zero, List.set_cons_succ]
    refine wpAnyH_take (i := 6) (oi := { dst := some 53, op := Go.Op.move (Go.Operand.tmp 52), type := 4, pos := "law.go:110", after := #[{ on := 5, ground := Go.Ground.data }, { on := 1, ground := Go.Ground.chain }, { on := 1, ground := Go.Ground.guard }], guard := some (1, true) }) (v := ?vz6) rfl (by kernel_rfl) (by kernel_rfl) (by kernel_rfl) (fun _ _ _ h => h) (Or.inl ⟨by rfl, ?yz6⟩) (by assumption) ?rz6
    case yz6 => ((intro w hSw; (try dsimp only at hSw); go_simp) <;> with_reducible rfl)
    try simp only [Act.put, List.setIfInBounds_toArray, List.set_cons_zero, List.set_cons_succ]
    refine wpAnyH_take (i := 7) (oi := { dst := some 54, op := Go.Op.load 38 (Go.Operand.tmp 9), type := 38, pos := "law.go:110", after := #[{ on := 6, ground := Go.Ground.guard }], guard := some (6, false) }) (v := undef) rfl (by kernel_rfl) (by kernel_rfl) (by kernel_rfl) (fun _ _ _ h => h) (Or.inr ⟨by rfl, rfl⟩) (by assumption) ?rz7
    try simp only [Act.put, List.setIfInBounds_toArray, List.set_cons_zero, List.set_cons_succ]
    refine wpAnyH_take (i := 8) (oi := { dst := some 55, op := Go.Op.call { callee := Go.Callee.value (Go.Operand.func 23), args := #[Go.Operand.tmp 54, Go.Operand.const (Go.Value.int Go.IntKind.i64 3)], argTypes := #[38, 3] }, type := 22, pos := "law.go:110", after := #[{ on := 7, ground := Go.Ground.data }, { on := 6, ground := Go.Ground.chain }, { on := 6, ground := Go.Ground.guard }], guard := some (6, false) }) (v := undef) rfl (by kernel_rfl) (by kernel_rfl) (by kernel_rfl) (fun _ _ _ h => h) (Or.inr ⟨by rfl, rfl⟩) (by assumption) ?rz8
    try simp only [Act.put, List.setIfInBounds_toArray, List.set_cons_zero, List.set_cons_succ]
    refine wpAnyH_take (i := 9) (oi := { dst := some 56, op := Go.Op.convert 22 9 (Go.Operand.tmp 55), type := 9, pos := "law.go:110", after := #[{ on := 8, ground := Go.Ground.data }, { on := 6, ground := Go.Ground.guard }], guard := some (6, false) }) (v := undef) rfl (by kernel_rfl) (by kernel_rfl) (by kernel_rfl) (fun _ _ _ h => h) (Or.inr ⟨by rfl, rfl⟩) (by assumption) ?rz9
    try simp only [Act.put, List.setIfInBounds_toArray, List.set_cons_zero, List.set_cons_succ]
    refine wpAnyH_take (i := 10) (oi := { dst := some 57, op := Go.Op.move (Go.Operand.tmp 0), type := 22, pos := "law.go:110", after := #[{ on := 6, ground := Go.Ground.guard }], guard := some (6, false) }) (v := undef) rfl (by kernel_rfl) (by kernel_rfl) (by kernel_rfl) (fun _ _ _ h => h) (Or.inr ⟨by rfl, rfl⟩) (by assumption) ?rz10
    try simp only [Act.put, List.setIfInBounds_toArray, List.set_cons_zero, List.set_cons_succ]
    refine wpAnyH_take (i := 11) (oi := { dst := some 58, op := Go.Op.convert 22 9 (Go.Operand.tmp 57), type := 9, pos := "law.go:110", after := #[{ on := 10, ground := Go.Ground.data }, { on := 6, ground := Go.Ground.guard }], guard := some (6, false) }) (v := undef) rfl (by kernel_rfl) (by kernel_rfl) (by kernel_rfl) (fun _ _ _ h => h) (Or.inr ⟨by rfl, rfl⟩) (by assumption) ?rz11
    try simp only [Act.put, List.setIfInBounds_toArray, List.set_cons_zero, List.set_cons_succ]
    refine wpAnyH_take (i := 12) (oi := { dst := some 59, op := Go.Op.binOp Go.BinOp.eql 9 (Go.Operand.tmp 56) (Go.Operand.tmp 58) 9, type := 4, pos := "law.go:110", after := #[{ on := 9, ground := Go.Ground.data }, { on := 11, ground := Go.Ground.data }, { on := 6, ground := Go.Ground.guard }], guard := some (6, false) }) (v := undef) rfl (by kernel_rfl) (by kernel_rfl) (by kernel_rfl) (fun _ _ _ h => h) (Or.inr ⟨by rfl, rfl⟩) (by assumption) ?rz12
    try simp only [Act.put, List.setIfInBounds_toArray, List.set_cons_zero, List.set_cons_succ]
    refine wpAnyH_take (i := 13) (oi := { dst := some 60, op := Go.Op.pick (Go.Operand.tmp 53) (Go.Operand.const (Go.Value.bool true)) (Go.Operand.tmp 59), type := 4, pos := "law.go:110", after := #[{ on := 6, ground := Go.Ground.data }, { on := 12, ground := Go.Ground.data }, { on := 1, ground := Go.Ground.guard }], guard := some (1, true) }) (v := ?vz13) rfl (by kernel_rfl) (by kernel_rfl) (by kernel_rfl) (fun _ _ _ h => h) (Or.inl ⟨by rfl, ?yz13⟩) (by assumption) ?rz13
    case yz13 => ((intro w hSw; (try dsimp only at hSw); go_simp) <;> with_reducible rfl)
    try simp only [Act.put, List.setIfInBounds_toArray, List.set_cons_zero, List.set_cons_succ]
    refine wpAnyH_take (i := 14) (oi := { dst := some 61, op := Go.Op.pick (Go.Operand.tmp 48) (Go.Operand.tmp 60) (Go.Operand.const (Go.Value.bool false)), type := 4, pos := "law.go:110", after := #[{ on := 1, ground := Go.Ground.data }, { on := 13, ground := Go.Ground.data }], guard := none }) (v := ?vz14) rfl (by kernel_rfl) (by kernel_rfl) (by kernel_rfl) (fun _ _ _ h => h) (Or.inl ⟨by rfl, ?yz14⟩) (by assumption) ?rz14
    case yz14 => ((intro w hSw; (try dsimp only at hSw); go_simp) <;> with_reducible rfl)
    try simp only [Act.put, List.setIfInBounds_toArray, List.set_cons_zero, List.set_cons_succ]
    refine wpAnyH_take (i := 15) (oi := { dst := some 62, op := Go.Op.move (Go.Operand.tmp 61), type := 4, pos := "law.go:110", after := #[{ on := 14, ground := Go.Ground.data }, { on := 8, ground := Go.Ground.chain }], guard := none }) (v := ?vz15) rfl (by kernel_rfl) (by kernel_rfl) (by kernel_rfl) (fun _ _ _ h => h) (Or.inl ⟨by rfl, ?yz15⟩) (by assumption) ?rz15
    case yz15 => ((intro w hSw; (try dsimp only at hSw); go_simp) <;> with_reducible rfl)
    try simp only [Act.put, List.setIfInBounds_toArray, List.set_cons_zero, List.set_cons_succ]
    refine wpAnyH_take (i := 16) (oi := { dst := some 63, op := Go.Op.load 38 (Go.Operand.tmp 9), type := 38, pos := "law.go:110", after := #[{ on := 15, ground := Go.Ground.guard }], guard := some (15, true) }) (v := ?vz16) rfl (by kernel_rfl) (by kernel_rfl) (by kernel_rfl) (fun _ _ _ h => h) (Or.inl ⟨by rfl, ?yz16⟩) (by assumption) ?rz16
    case yz16 => ((intro w hSw; (try dsimp only at hSw); go_simp) <;> with_reducible rfl)
    try simp only [Act.put, List.setIfInBounds_toArray, List.set_cons_zero, List.set_cons_succ]
    refine wpAnyH_take (i := 19) (oi := { dst := some 66, op := Go.Op.move (Go.Operand.tmp 0), type := 22, pos := "law.go:110", after := #[{ on := 15, ground := Go.Ground.guard }], guard := some (15, true) }) (v := ?vz19) rfl (by kernel_rfl) (by kernel_rfl) (by kernel_rfl) (fun _ _ _ h => h) (Or.inl ⟨by rfl, ?yz19⟩) (by assumption) ?rz19
    case yz19 => ((intro w hSw; (try dsimp only at hSw); go_simp) <;> with_reducible rfl)
    try simp only [Act.put, List.setIfInBounds_toArray, List.set_cons_zero, List.set_cons_succ]
    refine wpAnyH_take (i := 20) (oi := { dst := some 67, op := Go.Op.convert 22 9 (Go.Operand.tmp 66), type := 9, pos := "law.go:110", after := #[{ on := 19, ground := Go.Ground.data }, { on := 15, ground := Go.Ground.guard }], guard := some (15, true) }) (v := ?vz20) rfl (by kernel_rfl) (by kernel_rfl) (by kernel_rfl) (fun _ _ _ h => h) (Or.inl ⟨by rfl, ?yz20⟩) (by assumption) ?rz20
    case yz20 => ((intro w hSw; (try dsimp only at hSw); go_simp) <;> with_reducible rfl)
    try simp only [Act.put, List.setIfInBounds_toArray, List.set_cons_zero, List.set_cons_succ]
    refine wpAnyH_ready (rs := [17]) (by kernel_rfl) (by simp) ?_
    refine AllReadyH.cons (o := { dst := some 64, op := Go.Op.call { callee := Go.Callee.value (Go.Operand.func 23), args := #[Go.Operand.tmp 63, Go.Operand.const (Go.Value.int Go.IntKind.i64 5)], argTypes := #[38, 3] }, type := 22, pos := "law.go:110", after := #[{ on := 16, ground := Go.Ground.data }, { on := 15, ground := Go.Ground.chain }, { on := 15, ground := Go.Ground.guard }], guard := some (15, true) }) rfl (fun K hK => ?kz17) AllReadyH.nil
    go_simp
    refine (prt_calls none 0 false false false false false false false m p q x [] 5 [x] _ (nil33 _) (Nat.le_refl _) P5.out).mono ?_
    rintro e v17 ⟨A17, k17, rfl, hk, hC, b⟩
    have hv17 : (convert 22 9 (.slice A17 1 k17)).run Try.prog v17 = .ok (.string s) v17 := by rw [HSS.out]; exact Kd.C_string (P := Try.prog) (src := 22) (dst := 9) (e := 5) (c := k17) Try.underlying22 Try.underlying5 Try.underlying9 hC
    have D17 : Aside0 (Below w7.heap.size w7 v17) := ⟨below_step (by repeat (first | exact Below.refl _ _ | apply pw_below_drewN | apply below_drew)) b.out⟩
    clear hk hC b
    refine hK.out _ _ ?_ (fun hHeld => ?_)
    · exact SK.out _ D17.out
    clear hK K
    try simp only [Act.put, List.setIfInBounds_toArray, List.set_cons_zero, List.set_cons_succ]
    refine wpAnyH_ready (rs := [18]) (by kernel_rfl) (by simp) ?_
    refine AllReadyH.cons (o := { dst := some 65, op := Go.Op.convert 22 9 (Go.Operand.tmp 64), type := 9, pos := "law.go:110", after := #[{ on := 17, ground := Go.Ground.data }, { on := 15, ground := Go.Ground.guard }], guard := some (15, true) }) rfl (fun K hK => ?kz18) AllReadyH.nil
    go_simp
    refine hK.out _ _ ?_ (fun hHeld => ?_)
    · exact SK.out _ D17.out
    clear hK K
    try simp only [Act.put, List.setIfInBounds_toArray, List.set_cons_zero, List.set_cons_succ]
    refine wpAnyH_take (i := 21) (oi := { dst := some 68, op := Go.Op.binOp Go.BinOp.eql 9 (Go.Operand.tmp 65) (Go.Operand.tmp 67) 9, type := 4, pos := "law.go:110", after := #[{ on := 18, ground := Go.Ground.data }, { on := 20, ground := Go.Ground.data }, { on := 15, ground := Go.Ground.guard }], guard := some (15, true) }) (v := ?vz21) rfl (by kernel_rfl) (by kernel_rfl) (by kernel_rfl) (fun _ _ _ h => h) (Or.inl ⟨by rfl, ?yz21⟩) (by assumption) ?rz21
    case yz21 => ((intro w hSw; (try dsimp only at hSw); go_simp) <;> with_reducible rfl)
    try simp only [Act.put, List.setIfInBounds_toArray, List.set_cons_zero, List.set_cons_succ]
    refine wpAnyH_take (i := 22) (oi := { dst := some 69, op := Go.Op.pick (Go.Operand.tmp 62) (Go.Operand.tmp 68) (Go.Operand.const (Go.Value.bool false)), type := 4, pos := "law.go:110", after := #[{ on := 15, ground := Go.Ground.data }, { on := 21, ground := Go.Ground.data }], guard := none }) (v := ?vz22) rfl (by kernel_rfl) (by kernel_rfl) (by kernel_rfl) (fun _ _ _ h => h) (Or.inl ⟨by rfl, ?yz22⟩) (by assumption) ?rz22
    case yz22 => ((intro w hSw; (try dsimp only at hSw); go_simp) <;> with_reducible rfl)
    try simp only [Act.put, List.setIfInBounds_toArray, List.set_cons_zero, List.set_cons_succ]
    refine wpAnyH_take (i := 23) (oi := { dst := some 70, op := Go.Op.move (Go.Operand.tmp 69), type := 4, pos := "law.go:110", after := #[{ on := 22, ground := Go.Ground.data }, { on := 17, ground := Go.Ground.chain }], guard := none }) (v := ?vz23) rfl (by kernel_rfl) (by kernel_rfl) (by kernel_rfl) (fun _ _ _ h => h) (Or.inl ⟨by rfl, ?yz23⟩) (by assumption) ?rz23
    case yz23 => ((intro w hSw; (try dsimp only at hSw); go_simp) <;> with_reducible rfl)
    try simp only [Act.put, List.setIfInBounds_toArray, List.set_cons_zero, List.set_cons_succ]
    refine wpAnyH_take (i := 24) (oi := { dst := some 71, op := Go.Op.move (Go.Operand.tmp 0), type := 22, pos := "law.go:110", after := #[{ on := 23, ground := Go.Ground.guard }], guard := some (23, true) }) (v := ?vz24) rfl (by kernel_rfl) (by kernel_rfl) (by kernel_rfl) (fun _ _ _ h => h) (Or.inl ⟨by rfl, ?yz24⟩) (by assumption) ?rz24
    case yz24 => ((intro w hSw; (try dsimp only at hSw); go_simp) <;> with_reducible rfl)
    try simp only [Act.put, List.setIfInBounds_toArray, List.set_cons_zero, List.set_cons_succ]
    refine wpAnyH_take (i := 25) (oi := { dst := some 72, op := Go.Op.indexAddr 22 (Go.Operand.tmp 71) (Go.Operand.const (Go.Value.int Go.IntKind.i64 0)), type := 0, pos := "law.go:110", after := #[{ on := 24, ground := Go.Ground.data }, { on := 23, ground := Go.Ground.guard }], guard := some (23, true) }) (v := ?vz25) rfl (by kernel_rfl) (by kernel_rfl) (by kernel_rfl) (fun _ _ _ h => h) (Or.inl ⟨by rfl, ?yz25⟩) (by assumption) ?rz25
    case yz25 => ((intro w hSw; (try dsimp only at hSw); go_simp) <;> with_reducible rfl)
    try simp only [Act.put, List.setIfInBounds_toArray, List.set_cons_zero, List.set_cons_succ]
    refine wpAnyH_take (i := 26) (oi := { dst := some 73, op := Go.Op.load 5 (Go.Operand.tmp 72), type := 5, pos := "law.go:110", after := #[{ on := 25, ground := Go.Ground.data }, { on := 23, ground := Go.Ground.guard }], guard := some (23, true) }) (v := ?vz26) rfl (by kernel_rfl) (by kernel_rfl) (by kernel_rfl) (fun _ _ _ h => h) (Or.inl ⟨by rfl, ?yz26⟩) (by assumption) ?rz26
    case yz26 => ((intro w hSw; (try dsimp only at hSw); go_simp) <;> with_reducible rfl)
    try simp only [Act.put, List.setIfInBounds_toArray, List.set_cons_zero, List.set_cons_succ]
    refine wpAnyH_take (i := 27) (oi := { dst := some 74, op := Go.Op.binOp Go.BinOp.gtr 5 (Go.Operand.tmp 73) (Go.Operand.const (Go.Value.int Go.IntKind.u8 3)) 5, type := 4, pos := "law.go:110", after := #[{ on := 26, ground := Go.Ground.data }, { on := 23, ground := Go.Ground.guard }], guard := some (23, true) }) (v := ?vz27) rfl (by kernel_rfl) (by kernel_rfl) (by kernel_rfl) (fun _ _ _ h => h) (Or.inl ⟨by rfl, ?yz27⟩) (by assumption) ?rz27
    case yz27 => ((intro w hSw; (try dsimp only at hSw); go_simp) <;> with_reducible rfl)
    try simp only [Act.put, List.setIfInBounds_toArray, List.set_cons_zero, List.set_cons_succ]
    refine wpAnyH_take (i := 28) (oi := { dst := some 75, op := Go.Op.move (Go.Operand.tmp 74), type := 4, pos := "law.go:110", after := #[{ on := 27, ground := Go.Ground.data }, { on := 23, ground := Go.Ground.chain }, { on := 23, ground := Go.Ground.guard }], guard := some (23, true) }) (v := ?vz28) rfl (by kernel_rfl) (by kernel_rfl) (by kernel_rfl) (fun _ _ _ h => h) (Or.inl ⟨by rfl, ?yz28⟩) (by assumption) ?rz28
    case yz28 => ((intro w hSw; (try dsimp only at hSw); go_simp) <;> with_reducible rfl)
    try simp only [Act.put, List.setIfInBounds_toArray, List.set_cons_zero, List.set_cons_succ]
    refine wpAnyH_take (i := 29) (oi := { dst := some 76, op := Go.Op.load 38 (Go.Operand.tmp 9), type := 38, pos := "law.go:110", after := #[{ on := 28, ground := Go.Ground.guard }], guard := some (28, false) }) (v := ?vz29) rfl (by kernel_rfl) (by kernel_rfl) (by kernel_rfl) (fun _ _ _ h => h) (Or.inl ⟨by rfl, ?yz29⟩) (by assumption) ?rz29
    case yz29 => ((intro w hSw; (try dsimp only at hSw); go_simp) <;> with_reducible rfl)
    try simp only [Act.put, List.setIfInBounds_toArray, List.set_cons_zero, List.set_cons_succ]
    refine wpAnyH_take (i := 32) (oi := { dst := some 79, op := Go.Op.move (Go.Operand.tmp 0), type := 22, pos := "law.go:110", after := #[{ on := 28, ground := Go.Ground.guard }], guard := some (28, false) }) (v := ?vz32) rfl (by kernel_rfl) (by kernel_rfl) (by kernel_rfl) (fun _ _ _ h => h) (Or.inl ⟨by rfl, ?yz32⟩) (by assumption) ?rz32
    case yz32 => ((intro w hSw; (try dsimp only at hSw); go_simp) <;> with_reducible rfl)
    try simp only [Act.put, List.setIfInBounds_toArray, List.set_cons_zero, List.set_cons_succ]
    refine wpAnyH_take (i := 33) (oi := { dst := some 80, op := Go.Op.convert 22 9 (Go.Operand.tmp 79), type := 9, pos := "law.go:110", after := #[{ on := 32, ground := Go.Ground.data }, { on := 28, ground := Go.Ground.guard }], guard := some (28, false) }) (v := ?vz33) rfl (by kernel_rfl) (by kernel_rfl) (by kernel_rfl) (fun _ _ _ h => h) (Or.inl ⟨by rfl, ?yz33⟩) (by assumption) ?rz33
    case yz33 => ((intro w hSw; (try dsimp only at hSw); go_simp) <;> with_reducible rfl)
    try simp only [Act.put, List.setIfInBounds_toArray, List.set_cons_zero, List.set_cons_succ]
    refine wpAnyH_ready (rs := [30]) (by kernel_rfl) (by simp) ?_
    refine AllReadyH.cons (o := { dst := some 77, op := Go.Op.call { callee := Go.Callee.value (Go.Operand.func 23), args := #[Go.Operand.tmp 76, Go.Operand.const (Go.Value.int Go.IntKind.i64 4)], argTypes := #[38, 3] }, type := 22, pos := "law.go:110", after := #[{ on := 29, ground := Go.Ground.data }, { on := 28, ground := Go.Ground.chain }, { on := 28, ground := Go.Ground.guard }], guard := some (28, false) }) rfl (fun K hK => ?kz30) AllReadyH.nil
    go_simp
    refine (prt_calls none 0 false false false false false false false m p q x [] 4 [x] _ (nil33 _) (Nat.le_refl _) P4.out).mono ?_
    rintro e v30 ⟨A30, k30, rfl, hk, hC, b⟩
    have hv30 : (convert 22 9 (.slice A30 1 k30)).run Try.prog v30 = .ok (.string s) v30 := by rw [HSS.out]; exact Kd.C_string (P := Try.prog) (src := 22) (dst := 9) (e := 5) (c := k30) Try.underlying22 Try.underlying5 Try.underlying9 hC
    have D30 : Aside0 (Below w7.heap.size w7 v30) := ⟨below_step D17.out b.out⟩
    clear hk hC b
    refine hK.out _ _ ?_ (fun hHeld => ?_)
    · exact SK.out _ D30.out
    clear hK K
    try simp only [Act.put, List.setIfInBounds_toArray, List.set_cons_zero, List.set_cons_succ]
    refine wpAnyH_ready (rs := [31]) (by kernel_rfl) (by simp) ?_
    refine AllReadyH.cons (o := { dst := some 78, op := Go.Op.convert 22 9 (Go.Operand.tmp 77), type := 9, pos := "law.go:110", after := #[{ on := 30, ground := Go.Ground.data }, { on := 28, ground := Go.Ground.guard }], guard := some (28, false) }) rfl (fun K hK => ?kz31) AllReadyH.nil
    go_simp
    refine hK.out _ _ ?_ (fun hHeld => ?_)
    · exact SK.out _ D30.out
    clear hK K
    try simp only [Act.put, List.setIfInBounds_toArray, List.set_cons_zero, List.set_cons_succ]
    refine wpAnyH_take (i := 34) (oi := { dst := some 81, op := Go.Op.binOp Go.BinOp.eql 9 (Go.Operand.tmp 78) (Go.Operand.tmp 80) 9, type := 4, pos := "law.go:110", after := #[{ on := 31, ground := Go.Ground.data }, { on := 33, ground := Go.Ground.data }, { on := 28, ground := Go.Ground.guard }], guard := some (28, false) }) (v := ?vz34) rfl (by kernel_rfl) (by kernel_rfl) (by kernel_rfl) (fun _ _ _ h => h) (Or.inl ⟨by rfl, ?yz34⟩) (by assumption) ?rz34
    case yz34 => ((intro w hSw; (try dsimp only at hSw); go_simp) <;> with_reducible rfl)
    try simp only [Act.put, List.setIfInBounds_toArray, List.set_cons_zero, List.set_cons_succ]
    refine wpAnyH_take (i := 35) (oi := { dst := some 82, op := Go.Op.pick (Go.Operand.tmp 75) (Go.Operand.const (Go.Value.bool true)) (Go.Operand.tmp 81), type := 4, pos := "law.go:110", after := #[{ on := 28, ground := Go.Ground.data }, { on := 34, ground := Go.Ground.data }, { on := 23, ground := Go.Ground.guard }], guard := some (23, true) }) (v := ?vz35) rfl (by kernel_rfl) (by kernel_rfl) (by kernel_rfl) (fun _ _ _ h => h) (Or.inl ⟨by rfl, ?yz35⟩) (by assumption) ?rz35
    case yz35 => ((intro w hSw; (try dsimp only at hSw); go_simp) <;> with_reducible rfl)
    try simp only [Act.put, List.setIfInBounds_toArray, List.set_cons_zero, List.set_cons_succ]
    refine wpAnyH_take (i := 36) (oi := { dst := some 83, op := Go.Op.pick (Go.Operand.tmp 70) (Go.Operand.tmp 82) (Go.Operand.const (Go.Value.bool false)), type := 4, pos := "law.go:110", after := #[{ on := 23, ground := Go.Ground.data }, { on := 35, ground := Go.Ground.data }], guard := none }) (v := ?vz36) rfl (by kernel_rfl) (by kernel_rfl) (by kernel_rfl) (fun _ _ _ h => h) (Or.inl ⟨by rfl, ?yz36⟩) (by assumption) ?rz36
    case yz36 => ((intro w hSw; (try dsimp only at hSw); go_simp) <;> with_reducible rfl)
    try simp only [Act.put, List.setIfInBounds_toArray, List.set_cons_zero, List.set_cons_succ]
    refine wpAnyH_take (i := 37) (oi := { dst := some 2, op := Go.Op.assign (Go.Operand.tmp 83), type := 4, pos := "law.go:110", after := #[{ on := 36, ground := Go.Ground.data }, { on := 30, ground := Go.Ground.chain }, { on := 0, ground := Go.Ground.phase }, { on := 1, ground := Go.Ground.phase }, { on := 2, ground := Go.Ground.phase }, { on := 3, ground := Go.Ground.phase }, { on := 4, ground := Go.Ground.phase }, { on := 5, ground := Go.Ground.phase }, { on := 6, ground := Go.Ground.phase }, { on := 7, ground := Go.Ground.phase }, { on := 8, ground := Go.Ground.phase }, { on := 9, ground := Go.Ground.phase }, { on := 10, ground := Go.Ground.phase }, { on := 11, ground := Go.Ground.phase }, { on := 12, ground := Go.Ground.phase }, { on := 13, ground := Go.Ground.phase }, { on := 14, ground := Go.Ground.phase }, { on := 15, ground := Go.Ground.phase }, { on := 16, ground := Go.Ground.phase }, { on := 17, ground := Go.Ground.phase }, { on := 18, ground := Go.Ground.phase }, { on := 19, ground := Go.Ground.phase }, { on := 20, ground := Go.Ground.phase }, { on := 21, ground := Go.Ground.phase }, { on := 22, ground := Go.Ground.phase }, { on := 23, ground := Go.Ground.phase }, { on := 24, ground := Go.Ground.phase }, { on := 25, ground := Go.Ground.phase }, { on := 26, ground := Go.Ground.phase }, { on := 27, ground := Go.Ground.phase }, { on := 28, ground := Go.Ground.phase }, { on := 29, ground := Go.Ground.phase }, { on := 30, ground := Go.Ground.phase }, { on := 31, ground := Go.Ground.phase }, { on := 32, ground := Go.Ground.phase }, { on := 33, ground := Go.Ground.phase }, { on := 34, ground := Go.Ground.phase }, { on := 35, ground := Go.Ground.phase }, { on := 36, ground := Go.Ground.phase }], guard := none }) (v := ?vz37) rfl (by kernel_rfl) (by kernel_rfl) (by kernel_rfl) (fun _ _ _ h => h) (Or.inl ⟨by rfl, ?yz37⟩) (by assumption) ?rz37
    case yz37 => ((intro w hSw; (try dsimp only at hSw); go_simp) <;> with_reducible rfl)
    try simp only [Act.put, List.setIfInBounds_toArray, List.set_cons_zero, List.set_cons_succ]
    refine wpAnyH_done (by kernel_rfl) ?_ _
    have BE := btrans B7 D30
    go_wp2
    go_ret
    exact ⟨rfl, BE.out⟩
set_option maxHeartbeats 8000000 in
set_option maxRecDepth 100000 in
theorem once_high (A0 : Option Addr) (c0 : Nat) (x : Int) (m : Int) (p q : Bool) (w : World) (hr0 : Kd.C (Kd.int .u8) w A0 [x].length [x]) (hc0 : [x].length ≤ c0) (hM : sensor_Mode.f [x] true = some m) (hR : sensor_Routes.f [x] true 8 = some x) (hP : sensor_Power.f [x] true = some (p, q)) (hx0 : 0 ≤ x) (hx1 : x ≤ 255) (hc : 3 < x) (h5 : Inp.prt ⟨false, false, false, false, false, false, false, m, p, q, x, []⟩ 5 = some [x]) :
    Calls Try.prog 7 #[.slice A0 1 c0] w fun e w' => e = .returned (.bool true) ∧ Below w.heap.size w w' := by
  have HK : Aside0 (sensor_Counts.f [x] true = some (false, 0, 0, 0, 0)) := ⟨counts_no (by simp)⟩
  have M := Aside0.mk hM
  have R := Aside0.mk hR
  have P := Aside0.mk hP
  have X0 := Aside0.mk hx0
  have X1 := Aside0.mk hx1
  have P5 := Aside0.mk h5
  clear h5
  clear hM hR hP hx0 hx1
  have HR0 := Aside0.mk hr0
  have HC0 := Aside0.mk hc0
  clear hr0 hc0
  go_enter Try.func7, Try.ntmps7
  go_wp2_with fail
  refine (small_true _).mono ?_
  rintro e w1 ⟨rfl, hb⟩
  have B1 := Aside0.mk hb
  clear hb
  go_wp2_with fail
  refine (sensor_Counts.calls A0 c0 [x] true false 0 0 0 0 _ (Kd.C_below HR0.out B1.out) HC0.out HK.out).mono ?_
  rintro e w2 ⟨rfl, hb⟩
  have B2 := btrans B1 ⟨hb⟩
  clear hb
  go_upto_region 5 with fail
  obtain ⟨w3, hw3⟩ : ∃ x, x = w2.alloc (.cells #[.bool false, .int .i64 0, .int .i64 0, .int .i64 0, .int .i64 0] 33) := ⟨_, rfl⟩
  have B3 : Aside0 (Below w.heap.size w w3) := by rw [hw3]; exact balloc B2 _
  have HG : Aside0 (w2.heap.size < w3.heap.size) := by rw [hw3]; exact ⟨by simp⟩
  have t0 : w3.cell? ⟨w2.heap.size, 0, none⟩ = some (.bool false) := by rw [hw3]; exact cell_new _ _ _ 0
  have t1 : w3.cell? ⟨w2.heap.size, 1, none⟩ = some (.int .i64 0) := by rw [hw3]; exact cell_new _ _ _ 1
  have t2 : w3.cell? ⟨w2.heap.size, 2, none⟩ = some (.int .i64 0) := by rw [hw3]; exact cell_new _ _ _ 2
  have t3 : w3.cell? ⟨w2.heap.size, 3, none⟩ = some (.int .i64 0) := by rw [hw3]; exact cell_new _ _ _ 3
  have t4 : w3.cell? ⟨w2.heap.size, 4, none⟩ = some (.int .i64 0) := by rw [hw3]; exact cell_new _ _ _ 4
  first | rw [← hw3] | (simp only [← hw3])
  clear hw3
  have hg : w2.heap.size < w3.heap.size := HG.out
  go_cut [28] (fun v W => v = .bool false ∧ Aside0 (Below w3.heap.size w3 W))
  case first =>
    go_quiet (fail)
    go_wp2_with fail
    go_meet
    case rel => exact ⟨rfl, ⟨by repeat (first | exact Below.refl _ _ | apply pw_below_drewN | apply below_drew)⟩⟩
  case rest =>
    obtain ⟨rfl, hb⟩ := hcut
    obtain ⟨w4, rfl⟩ : ∃ y : World, y = wc := ⟨_, rfl⟩
    have B4 := btrans B3 hb
    clear hb t0 t1 t2 t3 t4 hg
    go_wp2_with fail
    refine (sensor_Mode.calls A0 c0 [x] true m _ (Kd.C_below HR0.out B4.out) HC0.out M.out).mono ?_
    rintro e w5 ⟨rfl, hb⟩
    have B5 := btrans B4 ⟨hb.below⟩
    clear hb
    go_wp2_with fail
    refine (sensor_Routes.calls A0 c0 [x] true 8 x _ (Kd.C_below HR0.out B5.out) HC0.out R.out).mono ?_
    rintro e w5a ⟨rfl, hb⟩
    have B5a := btrans B5 ⟨hb⟩
    clear hb
    go_wp2_with fail
    refine (sensor_Power.calls A0 c0 [x] true p q _ (Kd.C_below HR0.out B5a.out) HC0.out P.out).mono ?_
    rintro e w6 ⟨rfl, hb⟩
    have B6 := btrans B5a ⟨hb.below⟩
    clear hb
    go_upto_region 13 with fail
    obtain ⟨w7, hw7⟩ : ∃ y, y = w6.alloc (.cells #[.bool false, .bool false, .bool false, .bool false, .bool false, .bool false, .bool false, .int .i64 m, .bool p, .bool q, .int .i64 x, .slice none 0 0] 38) := ⟨_, rfl⟩
    have B7 : Aside0 (Below w.heap.size w w7) := by rw [hw7]; exact balloc B6 _
    have HG : Aside0 (w6.heap.size < w7.heap.size) := by rw [hw7]; exact ⟨by simp⟩
    have t0 : w7.cell? ⟨w6.heap.size, 0, none⟩ = some (.bool false) := by rw [hw7]; exact cell_new _ _ _ 0
    have t1 : w7.cell? ⟨w6.heap.size, 1, none⟩ = some (.bool false) := by rw [hw7]; exact cell_new _ _ _ 1
    have t2 : w7.cell? ⟨w6.heap.size, 2, none⟩ = some (.bool false) := by rw [hw7]; exact cell_new _ _ _ 2
    have t3 : w7.cell? ⟨w6.heap.size, 3, none⟩ = some (.bool false) := by rw [hw7]; exact cell_new _ _ _ 3
    have t4 : w7.cell? ⟨w6.heap.size, 4, none⟩ = some (.bool false) := by rw [hw7]; exact cell_new _ _ _ 4
    have t5 : w7.cell? ⟨w6.heap.size, 5, none⟩ = some (.bool false) := by rw [hw7]; exact cell_new _ _ _ 5
    have t6 : w7.cell? ⟨w6.heap.size, 6, none⟩ = some (.bool false) := by rw [hw7]; exact cell_new _ _ _ 6
    have t7 : w7.cell? ⟨w6.heap.size, 7, none⟩ = some (.int .i64 m) := by rw [hw7]; exact cell_new _ _ _ 7
    have t8 : w7.cell? ⟨w6.heap.size, 8, none⟩ = some (.bool p) := by rw [hw7]; exact cell_new _ _ _ 8
    have t9 : w7.cell? ⟨w6.heap.size, 9, none⟩ = some (.bool q) := by rw [hw7]; exact cell_new _ _ _ 9
    have t10 : w7.cell? ⟨w6.heap.size, 10, none⟩ = some (.int .i64 x) := by rw [hw7]; exact cell_new _ _ _ 10
    have t11 : w7.cell? ⟨w6.heap.size, 11, none⟩ = some (.slice none 0 0) := by rw [hw7]; exact cell_new _ _ _ 11
    first | rw [← hw7] | (simp only [← hw7])
    clear hw7
    have hg := HG.out
    obtain ⟨ad, eA, hcell⟩ := Kd.at_int HR0.out 0 (by omega) (by simp)
    subst eA
    obtain ⟨s, hs⟩ : ∃ s, s = strOfNums [x] := ⟨_, rfl⟩
    have HS : Aside0 (∀ W, Below w.heap.size w W → (convert 22 9 (.slice (some ad) 1 c0)).run Try.prog W = .ok (.string s) W) := ⟨fun W hW => by rw [hs]; exact Kd.C_string (P := Try.prog) (src := 22) (dst := 9) (e := 5) Try.underlying22 Try.underlying5 Try.underlying9 (Kd.C_below HR0.out hW)⟩
    have hcell2 : w.cell? ad = some (.int .u8 x) := by have e : ad.add 0 = ad := by unfold Addr.add; split <;> simp_all
                                                       rw [← e]; exact hcell
    have SK : Aside0 (∀ W, Below w7.heap.size w7 W → (fun W => (convert 22 9 (.slice (some ad) 1 c0)).run Try.prog W = .ok (.string s) W ∧ W.cell? ad = some (.int .u8 x) ∧ W.cell? ⟨w6.heap.size, 0, none⟩ = some (.bool false) ∧ W.cell? ⟨w6.heap.size, 1, none⟩ = some (.bool false) ∧ W.cell? ⟨w6.heap.size, 2, none⟩ = some (.bool false) ∧ W.cell? ⟨w6.heap.size, 3, none⟩ = some (.bool false) ∧ W.cell? ⟨w6.heap.size, 4, none⟩ = some (.bool false) ∧ W.cell? ⟨w6.heap.size, 5, none⟩ = some (.bool false) ∧ W.cell? ⟨w6.heap.size, 6, none⟩ = some (.bool false) ∧ W.cell? ⟨w6.heap.size, 7, none⟩ = some (.int .i64 m) ∧ W.cell? ⟨w6.heap.size, 8, none⟩ = some (.bool p) ∧ W.cell? ⟨w6.heap.size, 9, none⟩ = some (.bool q) ∧ W.cell? ⟨w6.heap.size, 10, none⟩ = some (.int .i64 x) ∧ W.cell? ⟨w6.heap.size, 11, none⟩ = some (.slice none 0 0)) W) := ⟨fun W hW => ⟨HS.out W (btrans B7 ⟨hW⟩).out, bcellA (btrans B7 ⟨hW⟩) hcell2, bcellA ⟨hW⟩ t0, bcellA ⟨hW⟩ t1, bcellA ⟨hW⟩ t2, bcellA ⟨hW⟩ t3, bcellA ⟨hW⟩ t4, bcellA ⟨hW⟩ t5, bcellA ⟨hW⟩ t6, bcellA ⟨hW⟩ t7, bcellA ⟨hW⟩ t8, bcellA ⟨hW⟩ t9, bcellA ⟨hW⟩ t10, bcellA ⟨hW⟩ t11⟩⟩
    have HSS := Aside0.mk hs
    clear hs hcell hcell2 t0 t1 t2 t3 t4 t5 t6 t7 t8 t9 t10 t11
    have x0 := X0.out
    have x1 := X1.out
    have d2 : decide (2 < x) = true := decide_eq_true (by omega)
    have d3 : decide (3 < x) = true := decide_eq_true (by omega)
    refine wp_region_held_drew (S := (fun W => (convert 22 9 (.slice (some ad) 1 c0)).run Try.prog W = .ok (.string s) W ∧ W.cell? ad = some (.int .u8 x) ∧ W.cell? ⟨w6.heap.size, 0, none⟩ = some (.bool false) ∧ W.cell? ⟨w6.heap.size, 1, none⟩ = some (.bool false) ∧ W.cell? ⟨w6.heap.size, 2, none⟩ = some (.bool false) ∧ W.cell? ⟨w6.heap.size, 3, none⟩ = some (.bool false) ∧ W.cell? ⟨w6.heap.size, 4, none⟩ = some (.bool false) ∧ W.cell? ⟨w6.heap.size, 5, none⟩ = some (.bool false) ∧ W.cell? ⟨w6.heap.size, 6, none⟩ = some (.bool false) ∧ W.cell? ⟨w6.heap.size, 7, none⟩ = some (.int .i64 m) ∧ W.cell? ⟨w6.heap.size, 8, none⟩ = some (.bool p) ∧ W.cell? ⟨w6.heap.size, 9, none⟩ = some (.bool q) ∧ W.cell? ⟨w6.heap.size, 10, none⟩ = some (.int .i64 x) ∧ W.cell? ⟨w6.heap.size, 11, none⟩ = some (.slice none 0 0))) (by kernel_rfl) ?_ (fun hHeld => ?_)
    · exact SK.out _ (by repeat (first | exact Below.refl _ _ | apply pw_below_drewN | apply below_drew | apply below_alloc))
    refine wpAnyH_take (i := 0) (oi := { dst := some 47, op := Go.Op.move (Go.Operand.tmp 3), type := 4, pos := "law.go:110", after := #[], guard := none }) (v := ?vz0) rfl (by kernel_rfl) (by kernel_rfl) (by kernel_rfl) (fun _ _ _ h => h) (Or.inl ⟨by rfl, ?yz0⟩) (by assumption) ?rz0
    case yz0 => ((intro w hSw; (try dsimp only at hSw); go_simp) <;> with_reducible rfl)
    try simp only [Act.put, List.setIfInBounds_toArray, List.set_cons_zero, List.set_cons_succ]
    refine wpAnyH_take (i := 1) (oi := { dst := some 48, op := Go.Op.move (Go.Operand.tmp 47), type := 4, pos := "law.go:110", after := #[{ on := 0, ground := Go.Ground.data }], guard := none }) (v := ?vz1) rfl (by kernel_rfl) (by kernel_rfl) (by kernel_rfl) (fun _ _ _ h => h) (Or.inl ⟨by rfl, ?yz1⟩) (by assumption) ?rz1
    case yz1 => ((intro w hSw; (try dsimp only at hSw); go_simp) <;> with_reducible rfl)
    try simp only [Act.put, List.setIfInBounds_toArray, List.set_cons_zero, List.set_cons_succ]
    refine wpAnyH_take (i := 2) (oi := { dst := some 49, op := Go.Op.move (Go.Operand.tmp 0), type := 22, pos := "law.go:110", after := #[{ on := 1, ground := Go.Ground.guard }], guard := some (1, true) }) (v := ?vz2) rfl (by kernel_rfl) (by kernel_rfl) (by kernel_rfl) (fun _ _ _ h => h) (Or.inl ⟨by rfl, ?yz2⟩) (by assumption) ?rz2
    case yz2 => ((intro w hSw; (try dsimp only at hSw); go_simp) <;> with_reducible rfl)
    try simp only [Act.put, List.setIfInBounds_toArray, List.set_cons_zero, List.set_cons_succ]
    refine wpAnyH_take (i := 3) (oi := { dst := some 50, op := Go.Op.indexAddr 22 (Go.Operand.tmp 49) (Go.Operand.const (Go.Value.int Go.IntKind.i64 0)), type := 0, pos := "law.go:110", after := #[{ on := 2, ground := Go.Ground.data }, { on := 1, ground := Go.Ground.guard }], guard := some (1, true) }) (v := ?vz3) rfl (by kernel_rfl) (by kernel_rfl) (by kernel_rfl) (fun _ _ _ h => h) (Or.inl ⟨by rfl, ?yz3⟩) (by assumption) ?rz3
    case yz3 => ((intro w hSw; (try dsimp only at hSw); go_simp) <;> with_reducible rfl)
    try simp only [Act.put, List.setIfInBounds_toArray, List.set_cons_zero, List.set_cons_succ]
    refine wpAnyH_take (i := 4) (oi := { dst := some 51, op := Go.Op.load 5 (Go.Operand.tmp 50), type := 5, pos := "law.go:110", after := #[{ on := 3, ground := Go.Ground.data }, { on := 1, ground := Go.Ground.guard }], guard := some (1, true) }) (v := ?vz4) rfl (by kernel_rfl) (by kernel_rfl) (by kernel_rfl) (fun _ _ _ h => h) (Or.inl ⟨by rfl, ?yz4⟩) (by assumption) ?rz4
    case yz4 => ((intro w hSw; (try dsimp only at hSw); go_simp) <;> with_reducible rfl)
    try simp only [Act.put, List.setIfInBounds_toArray, List.set_cons_zero, List.set_cons_succ]
    refine wpAnyH_take (i := 5) (oi := { dst := some 52, op := Go.Op.binOp Go.BinOp.gtr 5 (Go.Operand.tmp 51) (Go.Operand.const (Go.Value.int Go.IntKind.u8 2)) 5, type := 4, pos := "law.go:110", after := #[{ on := 4, ground := Go.Ground.data }, { on := 1, ground := Go.Ground.guard }], guard := some (1, true) }) (v := ?vz5) rfl (by kernel_rfl) (by kernel_rfl) (by kernel_rfl) (fun _ _ _ h => h) (Or.inl ⟨by rfl, ?yz5⟩) (by assumption) ?rz5
    case yz5 => ((intro w hSw; (try dsimp only at hSw); go_simp) <;> with_reducible rfl)
    try simp only [Act.put, List.setIfInBounds_toArray, List.set_cons_zero, List.set_cons_succ]
    refine wpAnyH_take (i := 6) (oi := { dst := some 53, op := Go.Op.move (Go.Operand.tmp 52), type := 4, pos := "law.go:110", after := #[{ on := 5, ground := Go.Ground.data }, { on := 1, ground := Go.Ground.chain }, { on := 1, ground := Go.Ground.guard }], guard := some (1, true) }) (v := ?vz6) rfl (by kernel_rfl) (by kernel_rfl) (by kernel_rfl) (fun _ _ _ h => h) (Or.inl ⟨by rfl, ?yz6⟩) (by assumption) ?rz6
    case yz6 => ((intro w hSw; (try dsimp only at hSw); go_simp) <;> with_reducible rfl)
    try simp only [Act.put, List.setIfInBounds_toArray, List.set_cons_zero, List.set_cons_succ]
    refine wpAnyH_take (i := 7) (oi := { dst := some 54, op := Go.Op.load 38 (Go.Operand.tmp 9), type := 38, pos := "law.go:110", after := #[{ on := 6, ground := Go.Ground.guard }], guard := some (6, false) }) (v := undef) rfl (by kernel_rfl) (by kernel_rfl) (by kernel_rfl) (fun _ _ _ h => h) (Or.inr ⟨by rfl, rfl⟩) (by assumption) ?rz7
    try simp only [Act.put, List.setIfInBounds_toArray, List.set_cons_zero, List.set_cons_succ]
    refine wpAnyH_take (i := 8) (oi := { dst := some 55, op := Go.Op.call { callee := Go.Callee.value (Go.Operand.func 23), args := #[Go.Operand.tmp 54, Go.Operand.const (Go.Value.int Go.IntKind.i64 3)], argTypes := #[38, 3] }, type := 22, pos := "law.go:110", after := #[{ on := 7, ground := Go.Ground.data }, { on := 6, ground := Go.Ground.chain }, { on := 6, ground := Go.Ground.guard }], guard := some (6, false) }) (v := undef) rfl (by kernel_rfl) (by kernel_rfl) (by kernel_rfl) (fun _ _ _ h => h) (Or.inr ⟨by rfl, rfl⟩) (by assumption) ?rz8
    try simp only [Act.put, List.setIfInBounds_toArray, List.set_cons_zero, List.set_cons_succ]
    refine wpAnyH_take (i := 9) (oi := { dst := some 56, op := Go.Op.convert 22 9 (Go.Operand.tmp 55), type := 9, pos := "law.go:110", after := #[{ on := 8, ground := Go.Ground.data }, { on := 6, ground := Go.Ground.guard }], guard := some (6, false) }) (v := undef) rfl (by kernel_rfl) (by kernel_rfl) (by kernel_rfl) (fun _ _ _ h => h) (Or.inr ⟨by rfl, rfl⟩) (by assumption) ?rz9
    try simp only [Act.put, List.setIfInBounds_toArray, List.set_cons_zero, List.set_cons_succ]
    refine wpAnyH_take (i := 10) (oi := { dst := some 57, op := Go.Op.move (Go.Operand.tmp 0), type := 22, pos := "law.go:110", after := #[{ on := 6, ground := Go.Ground.guard }], guard := some (6, false) }) (v := undef) rfl (by kernel_rfl) (by kernel_rfl) (by kernel_rfl) (fun _ _ _ h => h) (Or.inr ⟨by rfl, rfl⟩) (by assumption) ?rz10
    try simp only [Act.put, List.setIfInBounds_toArray, List.set_cons_zero, List.set_cons_succ]
    refine wpAnyH_take (i := 11) (oi := { dst := some 58, op := Go.Op.convert 22 9 (Go.Operand.tmp 57), type := 9, pos := "law.go:110", after := #[{ on := 10, ground := Go.Ground.data }, { on := 6, ground := Go.Ground.guard }], guard := some (6, false) }) (v := undef) rfl (by kernel_rfl) (by kernel_rfl) (by kernel_rfl) (fun _ _ _ h => h) (Or.inr ⟨by rfl, rfl⟩) (by assumption) ?rz11
    try simp only [Act.put, List.setIfInBounds_toArray, List.set_cons_zero, List.set_cons_succ]
    refine wpAnyH_take (i := 12) (oi := { dst := some 59, op := Go.Op.binOp Go.BinOp.eql 9 (Go.Operand.tmp 56) (Go.Operand.tmp 58) 9, type := 4, pos := "law.go:110", after := #[{ on := 9, ground := Go.Ground.data }, { on := 11, ground := Go.Ground.data }, { on := 6, ground := Go.Ground.guard }], guard := some (6, false) }) (v := undef) rfl (by kernel_rfl) (by kernel_rfl) (by kernel_rfl) (fun _ _ _ h => h) (Or.inr ⟨by rfl, rfl⟩) (by assumption) ?rz12
    try simp only [Act.put, List.setIfInBounds_toArray, List.set_cons_zero, List.set_cons_succ]
    refine wpAnyH_take (i := 13) (oi := { dst := some 60, op := Go.Op.pick (Go.Operand.tmp 53) (Go.Operand.const (Go.Value.bool true)) (Go.Operand.tmp 59), type := 4, pos := "law.go:110", after := #[{ on := 6, ground := Go.Ground.data }, { on := 12, ground := Go.Ground.data }, { on := 1, ground := Go.Ground.guard }], guard := some (1, true) }) (v := ?vz13) rfl (by kernel_rfl) (by kernel_rfl) (by kernel_rfl) (fun _ _ _ h => h) (Or.inl ⟨by rfl, ?yz13⟩) (by assumption) ?rz13
    case yz13 => ((intro w hSw; (try dsimp only at hSw); go_simp) <;> with_reducible rfl)
    try simp only [Act.put, List.setIfInBounds_toArray, List.set_cons_zero, List.set_cons_succ]
    refine wpAnyH_take (i := 14) (oi := { dst := some 61, op := Go.Op.pick (Go.Operand.tmp 48) (Go.Operand.tmp 60) (Go.Operand.const (Go.Value.bool false)), type := 4, pos := "law.go:110", after := #[{ on := 1, ground := Go.Ground.data }, { on := 13, ground := Go.Ground.data }], guard := none }) (v := ?vz14) rfl (by kernel_rfl) (by kernel_rfl) (by kernel_rfl) (fun _ _ _ h => h) (Or.inl ⟨by rfl, ?yz14⟩) (by assumption) ?rz14
    case yz14 => ((intro w hSw; (try dsimp only at hSw); go_simp) <;> with_reducible rfl)
    try simp only [Act.put, List.setIfInBounds_toArray, List.set_cons_zero, List.set_cons_succ]
    refine wpAnyH_take (i := 15) (oi := { dst := some 62, op := Go.Op.move (Go.Operand.tmp 61), type := 4, pos := "law.go:110", after := #[{ on := 14, ground := Go.Ground.data }, { on := 8, ground := Go.Ground.chain }], guard := none }) (v := ?vz15) rfl (by kernel_rfl) (by kernel_rfl) (by kernel_rfl) (fun _ _ _ h => h) (Or.inl ⟨by rfl, ?yz15⟩) (by assumption) ?rz15
    case yz15 => ((intro w hSw; (try dsimp only at hSw); go_simp) <;> with_reducible rfl)
    try simp only [Act.put, List.setIfInBounds_toArray, List.set_cons_zero, List.set_cons_succ]
    refine wpAnyH_take (i := 16) (oi := { dst := some 63, op := Go.Op.load 38 (Go.Operand.tmp 9), type := 38, pos := "law.go:110", after := #[{ on := 15, ground := Go.Ground.guard }], guard := some (15, true) }) (v := ?vz16) rfl (by kernel_rfl) (by kernel_rfl) (by kernel_rfl) (fun _ _ _ h => h) (Or.inl ⟨by rfl, ?yz16⟩) (by assumption) ?rz16
    case yz16 => ((intro w hSw; (try dsimp only at hSw); go_simp) <;> with_reducible rfl)
    try simp only [Act.put, List.setIfInBounds_toArray, List.set_cons_zero, List.set_cons_succ]
    refine wpAnyH_take (i := 19) (oi := { dst := some 66, op := Go.Op.move (Go.Operand.tmp 0), type := 22, pos := "law.go:110", after := #[{ on := 15, ground := Go.Ground.guard }], guard := some (15, true) }) (v := ?vz19) rfl (by kernel_rfl) (by kernel_rfl) (by kernel_rfl) (fun _ _ _ h => h) (Or.inl ⟨by rfl, ?yz19⟩) (by assumption) ?rz19
    case yz19 => ((intro w hSw; (try dsimp only at hSw); go_simp) <;> with_reducible rfl)
    try simp only [Act.put, List.setIfInBounds_toArray, List.set_cons_zero, List.set_cons_succ]
    refine wpAnyH_take (i := 20) (oi := { dst := some 67, op := Go.Op.convert 22 9 (Go.Operand.tmp 66), type := 9, pos := "law.go:110", after := #[{ on := 19, ground := Go.Ground.data }, { on := 15, ground := Go.Ground.guard }], guard := some (15, true) }) (v := ?vz20) rfl (by kernel_rfl) (by kernel_rfl) (by kernel_rfl) (fun _ _ _ h => h) (Or.inl ⟨by rfl, ?yz20⟩) (by assumption) ?rz20
    case yz20 => ((intro w hSw; (try dsimp only at hSw); go_simp) <;> with_reducible rfl)
    try simp only [Act.put, List.setIfInBounds_toArray, List.set_cons_zero, List.set_cons_succ]
    refine wpAnyH_ready (rs := [17]) (by kernel_rfl) (by simp) ?_
    refine AllReadyH.cons (o := { dst := some 64, op := Go.Op.call { callee := Go.Callee.value (Go.Operand.func 23), args := #[Go.Operand.tmp 63, Go.Operand.const (Go.Value.int Go.IntKind.i64 5)], argTypes := #[38, 3] }, type := 22, pos := "law.go:110", after := #[{ on := 16, ground := Go.Ground.data }, { on := 15, ground := Go.Ground.chain }, { on := 15, ground := Go.Ground.guard }], guard := some (15, true) }) rfl (fun K hK => ?kz17) AllReadyH.nil
    go_simp
    refine (prt_calls none 0 false false false false false false false m p q x [] 5 [x] _ (nil33 _) (Nat.le_refl _) P5.out).mono ?_
    rintro e v17 ⟨A17, k17, rfl, hk, hC, b⟩
    have hv17 : (convert 22 9 (.slice A17 1 k17)).run Try.prog v17 = .ok (.string s) v17 := by rw [HSS.out]; exact Kd.C_string (P := Try.prog) (src := 22) (dst := 9) (e := 5) (c := k17) Try.underlying22 Try.underlying5 Try.underlying9 hC
    have D17 : Aside0 (Below w7.heap.size w7 v17) := ⟨below_step (by repeat (first | exact Below.refl _ _ | apply pw_below_drewN | apply below_drew)) b.out⟩
    clear hk hC b
    refine hK.out _ _ ?_ (fun hHeld => ?_)
    · exact SK.out _ D17.out
    clear hK K
    try simp only [Act.put, List.setIfInBounds_toArray, List.set_cons_zero, List.set_cons_succ]
    refine wpAnyH_ready (rs := [18]) (by kernel_rfl) (by simp) ?_
    refine AllReadyH.cons (o := { dst := some 65, op := Go.Op.convert 22 9 (Go.Operand.tmp 64), type := 9, pos := "law.go:110", after := #[{ on := 17, ground := Go.Ground.data }, { on := 15, ground := Go.Ground.guard }], guard := some (15, true) }) rfl (fun K hK => ?kz18) AllReadyH.nil
    go_simp
    refine hK.out _ _ ?_ (fun hHeld => ?_)
    · exact SK.out _ D17.out
    clear hK K
    try simp only [Act.put, List.setIfInBounds_toArray, List.set_cons_zero, List.set_cons_succ]
    refine wpAnyH_take (i := 21) (oi := { dst := some 68, op := Go.Op.binOp Go.BinOp.eql 9 (Go.Operand.tmp 65) (Go.Operand.tmp 67) 9, type := 4, pos := "law.go:110", after := #[{ on := 18, ground := Go.Ground.data }, { on := 20, ground := Go.Ground.data }, { on := 15, ground := Go.Ground.guard }], guard := some (15, true) }) (v := ?vz21) rfl (by kernel_rfl) (by kernel_rfl) (by kernel_rfl) (fun _ _ _ h => h) (Or.inl ⟨by rfl, ?yz21⟩) (by assumption) ?rz21
    case yz21 => ((intro w hSw; (try dsimp only at hSw); go_simp) <;> with_reducible rfl)
    try simp only [Act.put, List.setIfInBounds_toArray, List.set_cons_zero, List.set_cons_succ]
    refine wpAnyH_take (i := 22) (oi := { dst := some 69, op := Go.Op.pick (Go.Operand.tmp 62) (Go.Operand.tmp 68) (Go.Operand.const (Go.Value.bool false)), type := 4, pos := "law.go:110", after := #[{ on := 15, ground := Go.Ground.data }, { on := 21, ground := Go.Ground.data }], guard := none }) (v := ?vz22) rfl (by kernel_rfl) (by kernel_rfl) (by kernel_rfl) (fun _ _ _ h => h) (Or.inl ⟨by rfl, ?yz22⟩) (by assumption) ?rz22
    case yz22 => ((intro w hSw; (try dsimp only at hSw); go_simp) <;> with_reducible rfl)
    try simp only [Act.put, List.setIfInBounds_toArray, List.set_cons_zero, List.set_cons_succ]
    refine wpAnyH_take (i := 23) (oi := { dst := some 70, op := Go.Op.move (Go.Operand.tmp 69), type := 4, pos := "law.go:110", after := #[{ on := 22, ground := Go.Ground.data }, { on := 17, ground := Go.Ground.chain }], guard := none }) (v := ?vz23) rfl (by kernel_rfl) (by kernel_rfl) (by kernel_rfl) (fun _ _ _ h => h) (Or.inl ⟨by rfl, ?yz23⟩) (by assumption) ?rz23
    case yz23 => ((intro w hSw; (try dsimp only at hSw); go_simp) <;> with_reducible rfl)
    try simp only [Act.put, List.setIfInBounds_toArray, List.set_cons_zero, List.set_cons_succ]
    refine wpAnyH_take (i := 24) (oi := { dst := some 71, op := Go.Op.move (Go.Operand.tmp 0), type := 22, pos := "law.go:110", after := #[{ on := 23, ground := Go.Ground.guard }], guard := some (23, true) }) (v := ?vz24) rfl (by kernel_rfl) (by kernel_rfl) (by kernel_rfl) (fun _ _ _ h => h) (Or.inl ⟨by rfl, ?yz24⟩) (by assumption) ?rz24
    case yz24 => ((intro w hSw; (try dsimp only at hSw); go_simp) <;> with_reducible rfl)
    try simp only [Act.put, List.setIfInBounds_toArray, List.set_cons_zero, List.set_cons_succ]
    refine wpAnyH_take (i := 25) (oi := { dst := some 72, op := Go.Op.indexAddr 22 (Go.Operand.tmp 71) (Go.Operand.const (Go.Value.int Go.IntKind.i64 0)), type := 0, pos := "law.go:110", after := #[{ on := 24, ground := Go.Ground.data }, { on := 23, ground := Go.Ground.guard }], guard := some (23, true) }) (v := ?vz25) rfl (by kernel_rfl) (by kernel_rfl) (by kernel_rfl) (fun _ _ _ h => h) (Or.inl ⟨by rfl, ?yz25⟩) (by assumption) ?rz25
    case yz25 => ((intro w hSw; (try dsimp only at hSw); go_simp) <;> with_reducible rfl)
    try simp only [Act.put, List.setIfInBounds_toArray, List.set_cons_zero, List.set_cons_succ]
    refine wpAnyH_take (i := 26) (oi := { dst := some 73, op := Go.Op.load 5 (Go.Operand.tmp 72), type := 5, pos := "law.go:110", after := #[{ on := 25, ground := Go.Ground.data }, { on := 23, ground := Go.Ground.guard }], guard := some (23, true) }) (v := ?vz26) rfl (by kernel_rfl) (by kernel_rfl) (by kernel_rfl) (fun _ _ _ h => h) (Or.inl ⟨by rfl, ?yz26⟩) (by assumption) ?rz26
    case yz26 => ((intro w hSw; (try dsimp only at hSw); go_simp) <;> with_reducible rfl)
    try simp only [Act.put, List.setIfInBounds_toArray, List.set_cons_zero, List.set_cons_succ]
    refine wpAnyH_take (i := 27) (oi := { dst := some 74, op := Go.Op.binOp Go.BinOp.gtr 5 (Go.Operand.tmp 73) (Go.Operand.const (Go.Value.int Go.IntKind.u8 3)) 5, type := 4, pos := "law.go:110", after := #[{ on := 26, ground := Go.Ground.data }, { on := 23, ground := Go.Ground.guard }], guard := some (23, true) }) (v := ?vz27) rfl (by kernel_rfl) (by kernel_rfl) (by kernel_rfl) (fun _ _ _ h => h) (Or.inl ⟨by rfl, ?yz27⟩) (by assumption) ?rz27
    case yz27 => ((intro w hSw; (try dsimp only at hSw); go_simp) <;> with_reducible rfl)
    try simp only [Act.put, List.setIfInBounds_toArray, List.set_cons_zero, List.set_cons_succ]
    refine wpAnyH_take (i := 28) (oi := { dst := some 75, op := Go.Op.move (Go.Operand.tmp 74), type := 4, pos := "law.go:110", after := #[{ on := 27, ground := Go.Ground.data }, { on := 23, ground := Go.Ground.chain }, { on := 23, ground := Go.Ground.guard }], guard := some (23, true) }) (v := ?vz28) rfl (by kernel_rfl) (by kernel_rfl) (by kernel_rfl) (fun _ _ _ h => h) (Or.inl ⟨by rfl, ?yz28⟩) (by assumption) ?rz28
    case yz28 => ((intro w hSw; (try dsimp only at hSw); go_simp) <;> with_reducible rfl)
    try simp only [Act.put, List.setIfInBounds_toArray, List.set_cons_zero, List.set_cons_succ]
    refine wpAnyH_take (i := 29) (oi := { dst := some 76, op := Go.Op.load 38 (Go.Operand.tmp 9), type := 38, pos := "law.go:110", after := #[{ on := 28, ground := Go.Ground.guard }], guard := some (28, false) }) (v := undef) rfl (by kernel_rfl) (by kernel_rfl) (by kernel_rfl) (fun _ _ _ h => h) (Or.inr ⟨by rfl, rfl⟩) (by assumption) ?rz29
    try simp only [Act.put, List.setIfInBounds_toArray, List.set_cons_zero, List.set_cons_succ]
    refine wpAnyH_take (i := 30) (oi := { dst := some 77, op := Go.Op.call { callee := Go.Callee.value (Go.Operand.func 23), args := #[Go.Operand.tmp 76, Go.Operand.const (Go.Value.int Go.IntKind.i64 4)], argTypes := #[38, 3] }, type := 22, pos := "law.go:110", after := #[{ on := 29, ground := Go.Ground.data }, { on := 28, ground := Go.Ground.chain }, { on := 28, ground := Go.Ground.guard }], guard := some (28, false) }) (v := undef) rfl (by kernel_rfl) (by kernel_rfl) (by kernel_rfl) (fun _ _ _ h => h) (Or.inr ⟨by rfl, rfl⟩) (by assumption) ?rz30
    try simp only [Act.put, List.setIfInBounds_toArray, List.set_cons_zero, List.set_cons_succ]
    refine wpAnyH_take (i := 31) (oi := { dst := some 78, op := Go.Op.convert 22 9 (Go.Operand.tmp 77), type := 9, pos := "law.go:110", after := #[{ on := 30, ground := Go.Ground.data }, { on := 28, ground := Go.Ground.guard }], guard := some (28, false) }) (v := undef) rfl (by kernel_rfl) (by kernel_rfl) (by kernel_rfl) (fun _ _ _ h => h) (Or.inr ⟨by rfl, rfl⟩) (by assumption) ?rz31
    try simp only [Act.put, List.setIfInBounds_toArray, List.set_cons_zero, List.set_cons_succ]
    refine wpAnyH_take (i := 32) (oi := { dst := some 79, op := Go.Op.move (Go.Operand.tmp 0), type := 22, pos := "law.go:110", after := #[{ on := 28, ground := Go.Ground.guard }], guard := some (28, false) }) (v := undef) rfl (by kernel_rfl) (by kernel_rfl) (by kernel_rfl) (fun _ _ _ h => h) (Or.inr ⟨by rfl, rfl⟩) (by assumption) ?rz32
    try simp only [Act.put, List.setIfInBounds_toArray, List.set_cons_zero, List.set_cons_succ]
    refine wpAnyH_take (i := 33) (oi := { dst := some 80, op := Go.Op.convert 22 9 (Go.Operand.tmp 79), type := 9, pos := "law.go:110", after := #[{ on := 32, ground := Go.Ground.data }, { on := 28, ground := Go.Ground.guard }], guard := some (28, false) }) (v := undef) rfl (by kernel_rfl) (by kernel_rfl) (by kernel_rfl) (fun _ _ _ h => h) (Or.inr ⟨by rfl, rfl⟩) (by assumption) ?rz33
    try simp only [Act.put, List.setIfInBounds_toArray, List.set_cons_zero, List.set_cons_succ]
    refine wpAnyH_take (i := 34) (oi := { dst := some 81, op := Go.Op.binOp Go.BinOp.eql 9 (Go.Operand.tmp 78) (Go.Operand.tmp 80) 9, type := 4, pos := "law.go:110", after := #[{ on := 31, ground := Go.Ground.data }, { on := 33, ground := Go.Ground.data }, { on := 28, ground := Go.Ground.guard }], guard := some (28, false) }) (v := undef) rfl (by kernel_rfl) (by kernel_rfl) (by kernel_rfl) (fun _ _ _ h => h) (Or.inr ⟨by rfl, rfl⟩) (by assumption) ?rz34
    try simp only [Act.put, List.setIfInBounds_toArray, List.set_cons_zero, List.set_cons_succ]
    refine wpAnyH_take (i := 35) (oi := { dst := some 82, op := Go.Op.pick (Go.Operand.tmp 75) (Go.Operand.const (Go.Value.bool true)) (Go.Operand.tmp 81), type := 4, pos := "law.go:110", after := #[{ on := 28, ground := Go.Ground.data }, { on := 34, ground := Go.Ground.data }, { on := 23, ground := Go.Ground.guard }], guard := some (23, true) }) (v := ?vz35) rfl (by kernel_rfl) (by kernel_rfl) (by kernel_rfl) (fun _ _ _ h => h) (Or.inl ⟨by rfl, ?yz35⟩) (by assumption) ?rz35
    case yz35 => ((intro w hSw; (try dsimp only at hSw); go_simp) <;> with_reducible rfl)
    try simp only [Act.put, List.setIfInBounds_toArray, List.set_cons_zero, List.set_cons_succ]
    refine wpAnyH_take (i := 36) (oi := { dst := some 83, op := Go.Op.pick (Go.Operand.tmp 70) (Go.Operand.tmp 82) (Go.Operand.const (Go.Value.bool false)), type := 4, pos := "law.go:110", after := #[{ on := 23, ground := Go.Ground.data }, { on := 35, ground := Go.Ground.data }], guard := none }) (v := ?vz36) rfl (by kernel_rfl) (by kernel_rfl) (by kernel_rfl) (fun _ _ _ h => h) (Or.inl ⟨by rfl, ?yz36⟩) (by assumption) ?rz36
    case yz36 => ((intro w hSw; (try dsimp only at hSw); go_simp) <;> with_reducible rfl)
    try simp only [Act.put, List.setIfInBounds_toArray, List.set_cons_zero, List.set_cons_succ]
    refine wpAnyH_take (i := 37) (oi := { dst := some 2, op := Go.Op.assign (Go.Operand.tmp 83), type := 4, pos := "law.go:110", after := #[{ on := 36, ground := Go.Ground.data }, { on := 30, ground := Go.Ground.chain }, { on := 0, ground := Go.Ground.phase }, { on := 1, ground := Go.Ground.phase }, { on := 2, ground := Go.Ground.phase }, { on := 3, ground := Go.Ground.phase }, { on := 4, ground := Go.Ground.phase }, { on := 5, ground := Go.Ground.phase }, { on := 6, ground := Go.Ground.phase }, { on := 7, ground := Go.Ground.phase }, { on := 8, ground := Go.Ground.phase }, { on := 9, ground := Go.Ground.phase }, { on := 10, ground := Go.Ground.phase }, { on := 11, ground := Go.Ground.phase }, { on := 12, ground := Go.Ground.phase }, { on := 13, ground := Go.Ground.phase }, { on := 14, ground := Go.Ground.phase }, { on := 15, ground := Go.Ground.phase }, { on := 16, ground := Go.Ground.phase }, { on := 17, ground := Go.Ground.phase }, { on := 18, ground := Go.Ground.phase }, { on := 19, ground := Go.Ground.phase }, { on := 20, ground := Go.Ground.phase }, { on := 21, ground := Go.Ground.phase }, { on := 22, ground := Go.Ground.phase }, { on := 23, ground := Go.Ground.phase }, { on := 24, ground := Go.Ground.phase }, { on := 25, ground := Go.Ground.phase }, { on := 26, ground := Go.Ground.phase }, { on := 27, ground := Go.Ground.phase }, { on := 28, ground := Go.Ground.phase }, { on := 29, ground := Go.Ground.phase }, { on := 30, ground := Go.Ground.phase }, { on := 31, ground := Go.Ground.phase }, { on := 32, ground := Go.Ground.phase }, { on := 33, ground := Go.Ground.phase }, { on := 34, ground := Go.Ground.phase }, { on := 35, ground := Go.Ground.phase }, { on := 36, ground := Go.Ground.phase }], guard := none }) (v := ?vz37) rfl (by kernel_rfl) (by kernel_rfl) (by kernel_rfl) (fun _ _ _ h => h) (Or.inl ⟨by rfl, ?yz37⟩) (by assumption) ?rz37
    case yz37 => ((intro w hSw; (try dsimp only at hSw); go_simp) <;> with_reducible rfl)
    try simp only [Act.put, List.setIfInBounds_toArray, List.set_cons_zero, List.set_cons_succ]
    refine wpAnyH_done (by kernel_rfl) ?_ _
    have BE := btrans B7 D17
    go_wp2
    go_ret
    exact ⟨rfl, BE.out⟩
end Go.Proofs.Ythefjcpddiggkaa.PS
