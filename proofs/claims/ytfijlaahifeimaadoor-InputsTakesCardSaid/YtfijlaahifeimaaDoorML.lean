/- inputs: New, Take, Step of the reference. -/
import Derived.Test.YtfijlaahifeimaaDoorMG
import Derived.Test.YtfijlaahifeimaaDoorMF
import Derived.Test.YtfijlaahifeimaaDoorMJ
import Derived.Test.YtfijlaahifeimaaDoorMI
import Derived.ProofKit
import Derived.DataShut
namespace Go.Proofs.YtfijlaahifeimaaDoor.PE
open Go.RowKit Go.Extern.Stop Go.Stop Go.Extern Go.Proofs.YtfijlaahifeimaaDoorW.PrintWords Go.Proofs.YtfijlaahifeimaaDoorW.PrintLast Go.Proofs.YtfijlaahifeimaaDoorW.PrintMore Go.Proofs.YtfijlaahifeimaaDoor.PS
set_option linter.unusedVariables false
set_option linter.unusedSimpArgs false
/-- The reference's inputs at x, their channels at g. -/
structure RIK (W : World) (x g : Nat) (F : Int) (n : Nat) (st : Nat → LinkV) : Prop where
  obj : W.heap[x]? = some (.cells #[.pointer (some ⟨g, 0, none⟩), .int .i64 n] 62 (0, 0))
  lk : RK W g F (okI x g) st
  ne : x ≠ g
  hn : 1 ≤ n ∧ n ≤ 8
  by_ : BytesR st
theorem RIK.below {W W' : World} {x g : Nat} {F : Int} {n : Nat} {st : Nat → LinkV} (h : RIK W x g F n st) (hb : Below W.heap.size W W') : RIK W' x g F n st :=
  ⟨heap_below ⟨hb⟩ h.obj, h.lk.below hb, h.ne, h.hn, h.by_⟩
theorem RIK.only {W W' : World} {x g b : Nat} {F : Int} {n : Nat} {st : Nat → LinkV} (h : RIK W x g F n st) (hO : Only b W W') (hx : x ≠ b) (hg : g ≠ b) (hk : ∀ k, okI x g k → k < W.heap.size → k ≠ b) : RIK W' x g F n st :=
  ⟨heap_only hO hx h.obj, h.lk.step (hO.block g h.lk.lt hg) (fun k hk1 hl => hO.block k hl (hk k hk1 hl)), h.ne, h.hn, h.by_⟩
theorem wf_of_bytes {l : List Int} (h : Bytes l) : ∀ y ∈ l, (Lit.int .u8 y).wf = true := by
  intro y hy
  have e1 : IntKind.u8.min = 0 := rfl
  have e2 : IntKind.u8.max = 255 := rfl
  exact (Lit.wf_int_iff .u8 y).2 (by rw [e1, e2]; exact h y hy)
set_option maxHeartbeats 4000000 in
theorem RINew_calls (t f : Int) (w : World) :
    Calls Tryd.prog 12 #[.int .i64 t, .int .i64 f] w fun e w' => ∃ x g, e = .returned (.pointer (some ⟨x, 0, none⟩)) ∧ RIK w' x g (max 1 (min f 6000)) (trk t) (fun _ => LinkV.zero) ∧ w.heap.size ≤ x ∧ w.heap.size ≤ g ∧ Below w.heap.size w w' := by
  go_enter Tryd.func12, Tryd.ntmps12
  go_wp2_with fail
  refine (RNew_calls f w).mono ?_
  rintro e w1 ⟨rfl, hL, hb⟩
  have L1 := Aside0.mk hL
  have B1 := Aside0.mk hb
  have ht := trk_is t
  have HT := Aside0.mk ht
  clear hL hb ht
  go_wp2_with fail
  go_ret
  have hlt := L1.out.lt
  have he : min (max t 1) 8 = max 1 (min t 8) := by omega
  have hb2 : Below w1.heap.size w1 (w1.alloc (.cells #[.pointer (some ⟨w.heap.size, 0, none⟩), .int .i64 (min (max t 1) 8)] 62)) := below_alloc (Below.refl _ _) _
  refine ⟨w1.heap.size, w.heap.size, rfl, ⟨by rw [HT.out.1, ← he]; exact heap_new _ _, ((L1.out.below hb2).mono (fun _ h => h.elim) (fun k hk => by have := hk.1; omega)), by omega, HT.out.2, fun i hi => by intro y hy; simp [LinkV.zero] at hy⟩, B1.out.size, Nat.le_refl _, below_thenB B1.out hb2 B1.out.size⟩
def takeRIE (F : Int) (st : Nat → LinkV) (l : List Int) : Int := if decE l = 0 then takeRE F st (decC l) (decQ l) (decD l).length else decE l
def takeRIS (F : Int) (st : Nat → LinkV) (l : List Int) : Nat → LinkV := if decE l = 0 then takeRS F st (decC l) (decQ l) (decD l) else st
theorem bytesR_take {F : Int} {st : Nat → LinkV} {ch sq : Int} {xs : List Int} (h : BytesR st) (hx : Bytes xs) : BytesR (takeRS F st ch sq xs) := by
  intro i hi
  unfold takeRS
  split
  · unfold updR
    split
    · exact wf_of_bytes hx
    · exact h i hi
  · exact h i hi
theorem bytesR_tick {F : Int} {st : Nat → LinkV} (h : BytesR st) : BytesR (fun i => tickR F (st i)) := by
  intro i hi
  dsimp only
  unfold tickR
  split
  · exact h i hi
  · exact h i hi
set_option maxHeartbeats 8000000 in
set_option maxRecDepth 100000 in
theorem RITake_calls {x g : Nat} {F : Int} {n : Nat} {st : Nat → LinkV} (w : World) (h : RIK w x g F n st) (A : Option Addr) (c : Nat) (l : List Int) (hC : Kd.C (Kd.int .u8) w A l.length l) (hc : l.length ≤ c) (hl : l.length ≤ 140737488351232) (hB : Bytes l) :
    Calls Tryd.prog 20 #[.pointer (some ⟨x, 0, none⟩), .slice A l.length c] w fun e w' => e = .returned (.int .i64 (takeRIE F st l)) ∧ RIK w' x g F n (takeRIS F st l) ∧ Only g w w' := by
  have H := Aside0.mk h
  have HB := Aside0.mk hB
  clear h
  go_enter Tryd.func20, Tryd.ntmps20
  go_wp2_with fail
  refine (RDecode_calls A c l w hC hc hl hB).mono ?_
  rintro e w1 ⟨v1, rfl, ⟨A1, c1, rfl, hc1, hC1⟩, hb⟩
  have H1 := Aside0.mk (H.out.below hb)
  have B1 := Aside0.mk hb
  have C1 := Aside0.mk hC1
  have HL := Aside0.mk (decD_len l)
  have HC1 := Aside0.mk hc1
  clear hC hc hl hB hb hC1 H hc1
  by_cases hd : decE l = 0
  · have HD := Aside0.mk hd
    have HT : Aside0 (takeRIE F st l = takeRE F st (decC l) (decQ l) (decD l).length ∧ takeRIS F st l = takeRS F st (decC l) (decQ l) (decD l)) := ⟨if_pos hd, if_pos hd⟩
    have HBS := Aside0.mk (bytesR_take (F := F) (ch := decC l) (sq := decQ l) H1.out.by_ (bytes_decD HB.out))
    rw [hd]
    clear hd
    go_upto_region 4 with fail
    obtain ⟨w2, hw2⟩ : ∃ w2, w2 = w1.alloc (.cells #[.int .i64 (decC l), .int .i64 (decQ l), .slice A1 (decD l).length c1] 80) := ⟨_, rfl⟩
    have hb : Below w1.heap.size w1 w2 := by rw [hw2]; exact below_alloc (Below.refl _ _) _
    have HF : Aside0 (w2.heap[w1.heap.size]? = some (.cells #[.int .i64 (decC l), .int .i64 (decQ l), .slice A1 (decD l).length c1] 80 (0, 0))) := ⟨by rw [hw2]; exact heap_new _ _⟩
    rw [← hw2]
    have H2 := Aside0.mk (H1.out.below hb)
    have C2 := Aside0.mk (Kd.C_below C1.out hb)
    have B2 := Aside0.mk (below_thenB B1.out hb B1.out.size)
    clear hw2 hb H1 C1 B1
    have k0 : World.cell? w2 ⟨x, 0, none⟩ = some (.pointer (some ⟨g, 0, none⟩)) := cell_of_heap H2.out.obj 0
    have q0 : World.cell? w2 ⟨w1.heap.size, 0, none⟩ = some (.int .i64 (decC l)) := cell_of_heap HF.out 0
    have q1 : World.cell? w2 ⟨w1.heap.size, 1, none⟩ = some (.int .i64 (decQ l)) := cell_of_heap HF.out 1
    have q2 : World.cell? w2 ⟨w1.heap.size, 2, none⟩ = some (.slice A1 (decD l).length c1) := cell_of_heap HF.out 2
    refine wp_region_last_drew (S := (fun W => W.cell? ⟨x, 0, none⟩ = some (.pointer (some ⟨g, 0, none⟩)) ∧ W.cell? ⟨w1.heap.size, 0, none⟩ = some (.int .i64 (decC l)) ∧ W.cell? ⟨w1.heap.size, 1, none⟩ = some (.int .i64 (decQ l)) ∧ W.cell? ⟨w1.heap.size, 2, none⟩ = some (.slice A1 (decD l).length c1))) (ds := [5, 6]) (by kernel_rfl) ?_ (fun hHeld => ?_)
    · exact ⟨k0, q0, q1, q2⟩
    refine wpAnyLast_take (i := 0) (oi := { dst := some 15, op := Go.Op.move (Go.Operand.tmp 0), type := 27, pos := "ref.go:28", after := #[], guard := none }) (v := ?vz0) rfl (by kernel_rfl) (by kernel_rfl) (by kernel_rfl) (by kernel_rfl) (by kernel_rfl) (fun _ _ _ h => h) (Or.inl ⟨by rfl, ?yz0⟩) (by assumption) ?rz0
    case yz0 => (((intro w hSw; (try dsimp only at hSw); go_simp) <;> with_reducible rfl))
    try simp only [put_]
    refine wpAnyLast_take (i := 1) (oi := { dst := some 16, op := Go.Op.nilCheck (Go.Operand.tmp 15), type := 0, pos := "ref.go:28", after := #[{ on := 0, ground := Go.Ground.data }], guard := none }) (v := ?vz1) rfl (by kernel_rfl) (by kernel_rfl) (by kernel_rfl) (by kernel_rfl) (by kernel_rfl) (fun _ _ _ h => h) (Or.inl ⟨by rfl, ?yz1⟩) (by assumption) ?rz1
    case yz1 => (((intro w hSw; (try dsimp only at hSw); go_simp) <;> with_reducible rfl))
    try simp only [put_]
    refine wpAnyLast_take (i := 2) (oi := { dst := some 17, op := Go.Op.fieldAddr 62 (Go.Operand.tmp 16) 0, type := 0, pos := "ref.go:28", after := #[{ on := 1, ground := Go.Ground.data }], guard := none }) (v := ?vz2) rfl (by kernel_rfl) (by kernel_rfl) (by kernel_rfl) (by kernel_rfl) (by kernel_rfl) (fun _ _ _ h => h) (Or.inl ⟨by rfl, ?yz2⟩) (by assumption) ?rz2
    case yz2 => (((intro w hSw; (try dsimp only at hSw); go_simp) <;> with_reducible rfl))
    try simp only [put_]
    refine wpAnyLast_take (i := 3) (oi := { dst := some 18, op := Go.Op.load 59 (Go.Operand.tmp 17), type := 59, pos := "ref.go:28", after := #[{ on := 2, ground := Go.Ground.data }], guard := none }) (v := ?vz3) rfl (by kernel_rfl) (by kernel_rfl) (by kernel_rfl) (by kernel_rfl) (by kernel_rfl) (fun _ _ _ h => h) (Or.inl ⟨by rfl, ?yz3⟩) (by assumption) ?rz3
    case yz3 => (((intro w hSw; (try dsimp only at hSw); go_simp) <;> with_reducible rfl))
    try simp only [put_]
    refine wpAnyLast_take (i := 4) (oi := { dst := some 19, op := Go.Op.load 80 (Go.Operand.tmp 5), type := 80, pos := "ref.go:28", after := #[], guard := none }) (v := ?vz4) rfl (by kernel_rfl) (by kernel_rfl) (by kernel_rfl) (by kernel_rfl) (by kernel_rfl) (fun _ _ _ h => h) (Or.inl ⟨by rfl, ?yz4⟩) (by assumption) ?rz4
    case yz4 => (((intro w hSw; (try dsimp only at hSw); go_simp) <;> with_reducible rfl))
    try simp only [put_]
    refine wpAnyLast_ready (rs := [5]) (by kernel_rfl) (by simp) ?_
    refine AllReadyL.cons_last (o := { dst := some 20, op := Go.Op.call { callee := Go.Callee.value (Go.Operand.func 50), args := #[Go.Operand.tmp 18, Go.Operand.tmp 19], argTypes := #[59, 80] }, type := 39, pos := "ref.go:28", after := #[{ on := 3, ground := Go.Ground.data }, { on := 4, ground := Go.Ground.data }], guard := none }) rfl (by decide) (fun K hK => ?kz5) AllReadyL.nil
    go_simp
    have hlt3 := H2.out.lk.lt
    have hx3 := heap_lt H2.out.obj
    have hne3 := H2.out.ne
    refine (RTake_calls w2.drew (H2.out.lk.below (below_drew (Below.refl _ _))) (fun k hk => ⟨by have h2 : w2.heap.size ≤ k := hk; omega, by have h2 : w2.heap.size ≤ k := hk; omega⟩) (decC l) (decQ l) A1 c1 (decD l) (Kd.C_below C2.out (below_drew (Below.refl _ _))) HC1.out (by have := HL.out; omega)).mono ?_
    rintro e w3 ⟨rfl, hL3, hO3⟩
    have O3 : Aside0 (Only g w2 w3) := ⟨(drew_only w2 g).trans hO3⟩
    have I3 : Aside0 (RIK w3 x g F n (takeRS F st (decC l) (decQ l) (decD l))) := ⟨⟨heap_only O3.out H2.out.ne H2.out.obj, hL3, H2.out.ne, H2.out.hn, HBS.out⟩⟩
    clear hL3 hO3 hlt3 hx3 hne3
    go_simp
    refine hK.out _ _ ?_
    clear hK K
    try simp only [put_]
    refine wpAnyLast_ready (rs := [6]) (by kernel_rfl) (by simp) ?_
    refine AllReadyL.cons_last (o := { dst := some 4, op := Go.Op.assign (Go.Operand.tmp 20), type := 39, pos := "ref.go:28", after := #[{ on := 5, ground := Go.Ground.data }, { on := 5, ground := Go.Ground.chain }, { on := 0, ground := Go.Ground.phase }, { on := 1, ground := Go.Ground.phase }, { on := 2, ground := Go.Ground.phase }, { on := 3, ground := Go.Ground.phase }, { on := 4, ground := Go.Ground.phase }, { on := 5, ground := Go.Ground.phase }], guard := none }) rfl (by decide) (fun K hK => ?kz6) AllReadyL.nil
    go_simp
    refine hK.out _ _ ?_
    clear hK K
    try simp only [put_]
    refine wpAnyLast_done (by kernel_rfl) ?_ _
    go_wp2_with fail
    go_ret
    rw [HT.out.1, HT.out.2]
    exact ⟨rfl, I3.out, (Only.of_below g B2.out).trans O3.out⟩
  · have HT : Aside0 (takeRIE F st l = decE l ∧ takeRIS F st l = st) := ⟨if_neg hd, if_neg hd⟩
    have hd2 : (decE l != 0) = true := by simpa using hd
    generalize decE l = E at hd2 HT
    clear hd
    go_wp2_with fail
    go_ret
    have hb2 := below_alloc (Below.refl w1.heap.size w1) (.cells #[.int .i64 (decC l), .int .i64 (decQ l), .slice A1 (decD l).length c1] 80)
    rw [HT.out.1, HT.out.2]
    exact ⟨rfl, H1.out.below hb2, Only.of_below g (below_thenB B1.out hb2 B1.out.size)⟩
/-- One telegram of a tick, by the reference. -/
def stepRF (F : Int) (p : Int × (Nat → LinkV)) (b : List Int) : Int × (Nat → LinkV) := (if takeRIE F p.2 b = 0 then p.1 + 1 else p.1, takeRIS F p.2 b)
def stepR (F : Int) (st : Nat → LinkV) (l : List (List Int)) : Int × (Nat → LinkV) := l.foldl (stepRF F) (0, fun i => tickR F (st i))
theorem stepRF_take (F : Int) (p : Int × (Nat → LinkV)) (l : List (List Int)) (k : Nat) (hk : k < l.length) : (l.take (k + 1)).foldl (stepRF F) p = stepRF F ((l.take k).foldl (stepRF F) p) (l.getD k []) := by
  rw [List.take_succ_eq_append_getElem hk, List.foldl_append, List.getD_eq_getElem?_getD, List.getElem?_eq_getElem hk]
  rfl
theorem stepRF_le (F : Int) : ∀ (l : List (List Int)) (p : Int × (Nat → LinkV)), p.1 ≤ (l.foldl (stepRF F) p).1 ∧ (l.foldl (stepRF F) p).1 ≤ p.1 + l.length
  | [], p => by simp
  | b :: l, p => by
    have h := stepRF_le F l (stepRF F p b)
    have h1 : p.1 ≤ (stepRF F p b).1 ∧ (stepRF F p b).1 ≤ p.1 + 1 := by unfold stepRF; dsimp only; split <;> omega
    rw [List.foldl_cons, List.length_cons]
    omega
set_option maxHeartbeats 8000000 in
set_option maxRecDepth 100000 in
theorem RIStep_calls {x g : Nat} {F : Int} {n : Nat} {st : Nat → LinkV} (w : World) (h : RIK w x g F n st) (A : Option Addr) (c : Nat) (l : List (List Int)) (hC : ∀ W, Only g w W → Kd.C (Kd.slice 5 (Kd.int .u8)) W A l.length l) (hl : l.length ≤ 140737488351232) (hB : BytesL l) :
    Calls Tryd.prog 14 #[.pointer (some ⟨x, 0, none⟩), .slice A l.length c] w fun e w' => e = .returned (.int .i64 (stepR F st l).1) ∧ RIK w' x g F n (stepR F st l).2 ∧ Only g w w' := by
  have k0 : World.cell? w ⟨x, 0, none⟩ = some (.pointer (some ⟨g, 0, none⟩)) := cell_of_heap h.obj 0
  have HB := Aside0.mk hB
  have HC := Aside0.mk hC
  have HLL := Aside0.mk hl
  have H0 := Aside0.mk h
  clear h hB hC hl
  go_enter Tryd.func14, Tryd.ntmps14
  go_wp2_with fail
  refine (RTick_calls w H0.out.lk).mono ?_
  rintro e w1 ⟨rfl, hI, hO⟩
  have I1 : Aside0 (RIK w1 x g F n (fun i => tickR F (st i))) := ⟨⟨heap_only hO H0.out.ne H0.out.obj, hI, H0.out.ne, H0.out.hn, bytesR_tick H0.out.by_⟩⟩
  have O1 := Aside0.mk hO
  clear hI hO H0 k0
  obtain ⟨st1, hst⟩ : ∃ st1, st1 = fun i => tickR F (st i) := ⟨_, rfl⟩
  have HST1 := Aside0.mk hst
  rw [← hst] at I1
  clear hst
  go_wp2_with fail
  go_loopw [5, 6] (fun s i W => ∃ k : Nat, k ≤ l.length ∧ i = .int .i64 k ∧ s = .int .i64 ((l.take k).foldl (stepRF F) (0, st1)).1 ∧ Aside0 (RIK W x g F n ((l.take k).foldl (stepRF F) (0, st1)).2) ∧ Aside0 (Only g w W)) (fun _ i _ => l.length - (intOf i).toNat)
  case atStart => exact ⟨0, by omega, rfl, rfl, I1, O1⟩
  case round =>
    obtain ⟨k, hk, rfl, rfl, IR, OR⟩ := hrel
    have hle := stepRF_le F (l.take k) (0, st1)
    have hln : (l.take k).length ≤ k := List.length_take_le _ _
    generalize hP : (l.take k).foldl (stepRF F) (0, st1) = P at hle IR
    have HP := Aside0.mk hP
    obtain ⟨m, S⟩ := P
    clear hP
    dsimp only at hle IR ⊢
    by_cases hlt : k < l.length
    · have dk : decide (k < l.length) = true := decide_eq_true hlt
      obtain ⟨ad, Bk, ck, rfl, hcell, hck, hCk⟩ := row_at (HC.out wr OR.out) k hlt
      have hby := bytesL_at HB.out k hlt
      have HST := Aside0.mk (stepRF_take F (0, st1) l k hlt)
      have hm1 : 0 ≤ m ∧ m ≤ 140737488351232 := by have := HLL.out; omega
      have hk1 : k ≤ 140737488351232 := by have := HLL.out; omega
      generalize l.getD k [] = b at hcell hck hCk hby HST
      have HBY := Aside0.mk hby
      have HCK := Aside0.mk hck
      have HCC := Aside0.mk hCk
      have HLT := Aside0.mk hlt
      clear hby hck hCk hle hln
      go_wp2_with fail
      refine (RITake_calls wr IR.out Bk ck b HCC.out HCK.out HBY.out.2 HBY.out.1).mono ?_
      rintro e w3 ⟨rfl, hI, hO⟩
      have I3 := Aside0.mk hI
      have O3 := Aside0.mk (OR.out.trans hO)
      clear hI hO
      by_cases hc0 : takeRIE F S b = 0
      · have HS : Aside0 ((l.take (k + 1)).foldl (stepRF F) (0, st1) = (m + 1, takeRIS F S b)) := ⟨by rw [HST.out, HP.out]; unfold stepRF; dsimp only; rw [if_pos hc0]⟩
        rw [hc0]
        clear hc0
        go_wp2_with fail
        refine ⟨⟨k + 1, HLT.out, rfl, by rw [HS.out], by rw [HS.out]; exact I3, O3⟩, by have := HLT.out; simp [intOf]; omega⟩
      · have HS : Aside0 ((l.take (k + 1)).foldl (stepRF F) (0, st1) = (m, takeRIS F S b)) := ⟨by rw [HST.out, HP.out]; unfold stepRF; dsimp only; rw [if_neg hc0]⟩
        have hc1 : (takeRIE F S b == 0) = false := by simpa using hc0
        generalize takeRIE F S b = E at hc1
        clear hc0
        go_wp2_with fail
        refine ⟨⟨k + 1, HLT.out, rfl, by rw [HS.out], by rw [HS.out]; exact I3, O3⟩, by have := HLT.out; simp [intOf]; omega⟩
    · have dk : decide (k < l.length) = false := decide_eq_false hlt
      have hkl : k = l.length := by omega
      subst hkl
      have HS : Aside0 (stepR F st l = (m, S)) := ⟨by rw [← HP.out, List.take_length, HST1.out]; rfl⟩
      clear hle hln
      go_wp2_with fail
      go_ret
      rw [HS.out]
      exact ⟨rfl, IR.out, OR.out⟩
end Go.Proofs.YtfijlaahifeimaaDoor.PE
/- inputs: the program and the reference, step by step: plain laws; two links in one memory. -/
namespace Go.Proofs.YtfijlaahifeimaaDoor.PE
open Go.RowKit Go.Extern.Stop Go.Stop Go.Extern Go.Proofs.YtfijlaahifeimaaDoorW.PrintWords Go.Proofs.YtfijlaahifeimaaDoorW.PrintLast Go.Proofs.YtfijlaahifeimaaDoorW.PrintMore Go.Proofs.YtfijlaahifeimaaDoor.PS
set_option linter.unusedVariables false
set_option linter.unusedSimpArgs false
theorem rel_one {F now : Int} {p : Int × (Nat → Ch)} {q : Int × (Nat → LinkV)} (hF : 1 ≤ F ∧ F ≤ 6000) (h1 : p.1 = q.1) (h : Rel F now p.2 q.2) (b : List Int) :
    takeRIE F q.2 b = takeIE F now p.2 b ∧ (stepF F now p b).1 = (stepRF F q b).1 ∧ Rel F now (stepF F now p b).2 (stepRF F q b).2 := by
  have e : takeRIE F q.2 b = takeIE F now p.2 b ∧ Rel F now (takeIS F now p.2 b) (takeRIS F q.2 b) := by
    unfold takeRIE takeIE takeIS takeRIS
    by_cases hd : decE b = 0
    · rw [if_pos hd, if_pos hd, if_pos hd, if_pos hd]
      exact rel_take h _ _ _ hF
    · rw [if_neg hd, if_neg hd, if_neg hd, if_neg hd]
      exact ⟨rfl, h⟩
  refine ⟨e.1, ?_, e.2⟩
  unfold stepF stepRF
  dsimp only
  rw [e.1, h1]
theorem rel_foldl {F now : Int} (hF : 1 ≤ F ∧ F ≤ 6000) : ∀ (l : List (List Int)) (p : Int × (Nat → Ch)) (q : Int × (Nat → LinkV)), p.1 = q.1 → Rel F now p.2 q.2 →
    (l.foldl (stepF F now) p).1 = (l.foldl (stepRF F) q).1 ∧ Rel F now (l.foldl (stepF F now) p).2 (l.foldl (stepRF F) q).2
  | [], _, _, h1, h => ⟨h1, h⟩
  | b :: l, p, q, h1, h => by
    have r := rel_one hF h1 h b
    exact rel_foldl hF l _ _ r.2.1 r.2.2
theorem rel_step {F : Int} {k : Nat} {S : Nat → Ch} {R : Nat → LinkV} (hF : 1 ≤ F ∧ F ≤ 6000) (h : Rel F (k : Int) S R) (l : List (List Int)) :
    (stepR F R l).1 = (stepI F ((k : Int) + 1) S l).1 ∧ Rel F ((k : Int) + 1) (stepI F ((k : Int) + 1) S l).2 (stepR F R l).2 := by
  have h2 := rel_tick (now := k) h
  have e : ((k + 1 : Nat) : Int) = (k : Int) + 1 := by omega
  rw [e] at h2
  have r := rel_foldl hF l (0, S) (0, fun i => tickR F (R i)) rfl h2
  exact ⟨r.1.symm, r.2⟩
theorem rel_now {F now : Int} {S : Nat → Ch} {R : Nat → LinkV} (h : Rel F now S R) (n : Nat) : nowR F R n = nowI F now S n := by
  have e1 : dataR F R = dataF F now S := funext fun ch => (rel_fresh h ch).2
  have e2 : isR F R = isF F now S := funext fun ch => (rel_fresh h ch).1
  unfold nowR nowI
  rw [e1, e2, ← rel_at h 0]
theorem rel_zero (F : Int) : Rel F 0 (fun _ => Ch.zero) (fun _ => LinkV.zero) := fun i _ => ⟨rfl, rfl, rfl, rfl, fun _ => ⟨rfl, rfl⟩⟩
/-- Rows lie in blocks of bytes: another block may be written. -/
theorem LK.onlyT {W W' : World} {g b : Nat} {F now : Int} {ok : Nat → Prop} {st : Nat → Ch} (h : LK W g F now ok st) (hO : Only b W W') (hb : g ≠ b) (ht : ∃ cs t, W.heap[b]? = some (.cells cs t (0, 0)) ∧ t ≠ 5) : LK W' g F now ok st := by
  have h2 : LK W g F now (fun k => ok k ∧ ∃ cs, W.heap[k]? = some (.cells cs 5 (0, 0))) st :=
    ⟨h.blk, h.cF, h.cnow, fun i hi => by
      obtain ⟨cc, v, e0, e1, e2, e3, e4, hR⟩ := h.ch i hi
      exact ⟨cc, v, e0, e1, e2, e3, e4, Kd.R_mono (Kd.R_bound hR) (fun k hk => ⟨hk.1, by
        obtain ⟨q, hq, cells, hc⟩ := hk.2.2.2
        have hq5 : q = 5 := by simpa [Kd.int, Kd.scalar] using hq
        subst hq5
        exact ⟨cells, hc⟩⟩)⟩, h.hF, h.hst, fun k hk => h.hok k hk.1⟩
  have h3 := h2.only2 hO hb (fun k hk => by
    rintro rfl
    obtain ⟨cs, hc⟩ := hk.2
    obtain ⟨cs', t, hc', ht⟩ := ht
    rw [hc] at hc'
    injection hc' with hc'
    injection hc' with _ hc'
    exact ht hc'.symm)
  exact h3.mono (fun k hk => hk.1) h.hok
theorem RK.onlyT {W W' : World} {g b : Nat} {F : Int} {ok : Nat → Prop} {st : Nat → LinkV} (h : RK W g F ok st) (hO : Only b W W') (hb : g ≠ b) (ht : ∃ cs t, W.heap[b]? = some (.cells cs t (0, 0)) ∧ t ≠ 5) : RK W' g F ok st := by
  have h2 : RK W g F (fun k => ok k ∧ ∃ cs, W.heap[k]? = some (.cells cs 5 (0, 0))) st :=
    ⟨h.blk, h.cF, fun i hi => by
      obtain ⟨v, e0, e1, e2, e3, hR⟩ := h.ch i hi
      exact ⟨v, e0, e1, e2, e3, Kd.R_mono (Kd.R_bound hR) (fun k hk => ⟨hk.1, by
        obtain ⟨q, hq, cells, hc⟩ := hk.2.2.2
        have hq5 : q = 5 := by simpa [Kd.int, Kd.scalar] using hq
        subst hq5
        exact ⟨cells, hc⟩⟩)⟩, h.hF, h.hst, fun k hk => h.hok k hk.1⟩
  have h3 := h2.only2 hO hb (fun k hk => by
    rintro rfl
    obtain ⟨cs, hc⟩ := hk.2
    obtain ⟨cs', t, hc', ht⟩ := ht
    rw [hc] at hc'
    injection hc' with hc'
    injection hc' with _ hc'
    exact ht hc'.symm)
  exact h3.mono (fun k hk => hk.1) h.hok
theorem IK.onlyR {W W' : World} {x g y gy : Nat} {F now : Int} {n m : Nat} {st : Nat → Ch} {R : Nat → LinkV} (h : IK W x g F now n st) (r : RIK W y gy F m R) (hO : Only gy W W') : IK W' x g F now n st := by
  obtain ⟨cs, hc⟩ := r.lk.blk
  have hx : x ≠ gy := by
    rintro rfl
    have := h.obj; rw [hc] at this; injection this with this; injection this with _ this; exact absurd this (by decide)
  have hg : g ≠ gy := by
    rintro rfl
    obtain ⟨cs', hc'⟩ := h.lk.blk
    rw [hc] at hc'; injection hc' with this; injection this with _ this; exact absurd this (by decide)
  exact ⟨heap_only hO hx h.obj, h.lk.onlyT hO hg ⟨cs, _, hc, by decide⟩, h.ne, h.hn, h.by_⟩
theorem RIK.onlyI {W W' : World} {x g y gy : Nat} {F now : Int} {n m : Nat} {st : Nat → Ch} {R : Nat → LinkV} (r : RIK W y gy F m R) (h : IK W x g F now n st) (hO : Only g W W') : RIK W' y gy F m R := by
  obtain ⟨cs, hc⟩ := h.lk.blk
  have hx : y ≠ g := by
    rintro rfl
    have := r.obj; rw [hc] at this; injection this with this; injection this with _ this; exact absurd this (by decide)
  have hg : gy ≠ g := by
    rintro rfl
    obtain ⟨cs', hc'⟩ := r.lk.blk
    rw [hc] at hc'; injection hc' with this; injection this with _ this; exact absurd this (by decide)
  exact ⟨heap_only hO hx r.obj, r.lk.onlyT hO hg ⟨cs, _, hc, by decide⟩, r.ne, r.hn, r.by_⟩
end Go.Proofs.YtfijlaahifeimaaDoor.PE
