/- inputs: New, Tick, Take, Step. -/
import Derived.Test.YtfijlaahifeimaaDoorME
import Derived.Test.YtfijlaahifeimaaDoorMA
import Derived.Test.YtfijlaahifeimaaDoorMB
import Derived.Lib.MinMax
import Derived.Test.YtfijlaahifeimaaDoorMD
import Derived.Test.YtfijlaahifeimaaDoorPSx5
import Derived.Laws.Bits64
namespace Go.Proofs.YtfijlaahifeimaaDoor.PE
open Go.RowKit Go.Extern.Stop Go.Stop Go.Extern Go.Proofs.YtfijlaahifeimaaDoorW.PrintWords Go.Proofs.YtfijlaahifeimaaDoorW.PrintLast Go.Proofs.YtfijlaahifeimaaDoorW.PrintMore Go.Proofs.YtfijlaahifeimaaDoor.PS
set_option linter.unusedVariables false
set_option linter.unusedSimpArgs false
/-- The blocks that rows may lie in. -/
def okI (x g : Nat) : Nat → Prop := fun k => g < k ∧ k ≠ x
def BytesS (st : Nat → Ch) : Prop := ∀ i, i < 16 → Bytes (st i).data
/-- The inputs at x, their channels at g. -/
structure IK (W : World) (x g : Nat) (F now : Int) (n : Nat) (st : Nat → Ch) : Prop where
  obj : W.heap[x]? = some (.cells #[.pointer (some ⟨g, 0, none⟩), .int .i64 n] 58 (0, 0))
  lk : LK W g F now (okI x g) st
  ne : x ≠ g
  hn : 1 ≤ n ∧ n ≤ 8
  by_ : BytesS st
theorem IK.below {W W' : World} {x g : Nat} {F now : Int} {n : Nat} {st : Nat → Ch} (h : IK W x g F now n st) (hb : Below W.heap.size W W') : IK W' x g F now n st :=
  ⟨heap_below ⟨hb⟩ h.obj, h.lk.below hb, h.ne, h.hn, h.by_⟩
theorem IK.only {W W' : World} {x g b : Nat} {F now : Int} {n : Nat} {st : Nat → Ch} (h : IK W x g F now n st) (hO : Only b W W') (hx : x ≠ b) (hg : g ≠ b) (hk : ∀ k, okI x g k → k ≠ b) : IK W' x g F now n st :=
  ⟨heap_only hO hx h.obj, h.lk.only2 hO hg hk, h.ne, h.hn, h.by_⟩
theorem IK.F1 {W : World} {x g : Nat} {F now : Int} {n : Nat} {st : Nat → Ch} (h : IK W x g F now n st) : 0 ≤ F ∧ F ≤ 6000 := h.lk.hF
/-- An error of the number c, or none. -/
def ErrC (W : World) (c : Int) (v : Value) : Prop := (c = 0 ∧ v = .nilIface) ∨ (c ≠ 0 ∧ ∃ p, ErrP W c p v)
theorem ErrC.below {W W' : World} (h : Aside0 (Below W.heap.size W W')) {c : Int} {v : Value} (e : ErrC W c v) : ErrC W' c v := e.imp id (fun e => ⟨e.1, e.2.imp fun _ p => p.below h⟩)
theorem ICode_calls (v : Value) (c : Int) (w : World) (hg : Gerr w) (hv : ErrC w c v) :
    Calls Tryd.prog 18 #[v] w fun e w' => e = .returned (.int .i64 c) ∧ Below w.heap.size w w' := by
  rcases hv with ⟨rfl, rfl⟩ | ⟨_, p, hv⟩
  · refine (code_nil w).mono ?_
    rintro e w' ⟨rfl, rfl⟩
    exact ⟨rfl, Below.refl _ _⟩
  · exact code_err p v c w hg hv
def sInputs : ByteArray := { data := #[105, 110, 112, 117, 116, 115] }
theorem wrap_calls (v : Value) (c : Int) (w : World) (hv : ErrC w c v) :
    Calls Tryd.prog 48 #[v, .string sInputs] w fun e w' => ∃ v', e = .returned v' ∧ ErrC w' c v' ∧ Below w.heap.size w w' := by
  rcases hv with ⟨rfl, rfl⟩ | ⟨hc, p, hv⟩
  · refine (wrap_nil _ w).mono ?_
    rintro e w' ⟨rfl, rfl⟩
    exact ⟨_, rfl, .inl ⟨rfl, rfl⟩, Below.refl _ _⟩
  · refine (wrap_err p v c _ w hv).mono ?_
    rintro e w' ⟨v', rfl, h, hb⟩
    exact ⟨_, rfl, .inr ⟨hc, _, h⟩, hb⟩
/-- The number of tracks. -/
def trk (t : Int) : Nat := (max 1 (min t 8)).toNat
theorem trk_is (t : Int) : ((trk t : Nat) : Int) = max 1 (min t 8) ∧ 1 ≤ trk t ∧ trk t ≤ 8 := by unfold trk; omega
set_option maxHeartbeats 4000000 in
theorem INew_calls (t f : Int) (w : World) :
    Calls Tryd.prog 11 #[.int .i64 t, .int .i64 f] w fun e w' => ∃ x g, e = .returned (.pointer (some ⟨x, 0, none⟩)) ∧ IK w' x g (max 1 (min f 6000)) 0 (trk t) (fun _ => Ch.zero) ∧ w.heap.size ≤ x ∧ w.heap.size ≤ g ∧ Below w.heap.size w w' := by
  go_enter Tryd.func11, Tryd.ntmps11
  go_wp2_with fail
  refine (New_calls f w).mono ?_
  rintro e w1 ⟨rfl, hL, hb⟩
  have L1 := Aside0.mk hL
  have B1 := Aside0.mk hb
  have ht := trk_is t
  have HT := Aside0.mk ht
  clear hL hb ht
  go_wp2_with fail
  go_ret
  have hlt := L1.out.lt
  have hb2 : Below w1.heap.size w1 (w1.alloc (.cells #[.pointer (some ⟨w.heap.size, 0, none⟩), .int .i64 (max 1 (min t 8))] 58)) := below_alloc (Below.refl _ _) _
  refine ⟨w1.heap.size, w.heap.size, rfl, ⟨by rw [HT.out.1]; exact heap_new _ _, ((L1.out.below hb2).mono (fun _ h => h.elim) (fun k hk => by have := hk.1; omega)), by omega, HT.out.2, fun i hi => by intro y hy; simp [Ch.zero] at hy⟩, B1.out.size, Nat.le_refl _, below_thenB B1.out hb2 B1.out.size⟩
set_option maxHeartbeats 4000000 in
theorem ITick_calls {x g : Nat} {F now : Int} {n : Nat} {st : Nat → Ch} (w : World) (h : IK w x g F now n st) (hn : now ≤ 1000000) :
    Calls Tryd.prog 21 #[.pointer (some ⟨x, 0, none⟩)] w fun e w' => e = .returned (.tuple #[]) ∧ IK w' x g F (now + 1) n st ∧ Only g w w' := by
  have k0 : World.cell? w ⟨x, 0, none⟩ = some (.pointer (some ⟨g, 0, none⟩)) := cell_of_heap h.obj 0
  have H := Aside0.mk h
  have HN := Aside0.mk hn
  clear h hn
  go_enter Tryd.func21, Tryd.ntmps21
  go_wp2_with fail
  refine (Tick_calls w H.out.lk HN.out).mono ?_
  rintro e w1 ⟨rfl, hL, hO⟩
  have L1 := Aside0.mk hL
  have O1 := Aside0.mk hO
  clear hL hO
  go_wp2_with fail
  go_end0
  exact ⟨rfl, ⟨heap_only O1.out H.out.ne H.out.obj, L1.out, H.out.ne, H.out.hn, H.out.by_⟩, O1.out⟩
/-- What Take answers of bytes, and what is known then. -/
def takeIE (F now : Int) (st : Nat → Ch) (l : List Int) : Int := if decE l = 0 then takeE F now st (decC l) (decQ l) (decD l).length else decE l
def takeIS (F now : Int) (st : Nat → Ch) (l : List Int) : Nat → Ch := if decE l = 0 then takeS F now st (decC l) (decQ l) (decD l) else st
theorem bytes_decD {l : List Int} (h : Bytes l) : Bytes (decD l) := by
  intro y hy
  unfold decD at hy
  split at hy
  · exact bytes_open h y (List.mem_of_mem_drop hy)
  · simp at hy
theorem bytesS_take {F now : Int} {st : Nat → Ch} {ch sq : Int} {xs : List Int} (h : BytesS st) (hx : Bytes xs) : BytesS (takeS F now st ch sq xs) := by
  intro i hi
  unfold takeS
  split
  · unfold upd
    split
    · exact hx
    · exact h i hi
  · exact h i hi
theorem decD_len (l : List Int) : (decD l).length ≤ 16 := by
  unfold decD
  split
  · rename_i h
    unfold decE at h
    by_cases ho : openOk l = false
    · rw [if_pos ho] at h; omega
    · rw [if_neg ho] at h
      by_cases hf : formBad (openL l)
      · rw [if_pos hf] at h; omega
      · unfold formBad at hf
        rw [List.length_drop]
        omega
  · simp
set_option maxHeartbeats 8000000 in
set_option maxRecDepth 100000 in
theorem ITake_calls {x g : Nat} {F now : Int} {n : Nat} {st : Nat → Ch} (w : World) (h : IK w x g F now n st) (hn : now ≤ 1000000) (A : Option Addr) (c : Nat) (l : List Int) (hC : Kd.C (Kd.int .u8) w A l.length l) (hc : l.length ≤ c) (hl : l.length ≤ 140737488351232) (hB : Bytes l) :
    Calls Tryd.prog 19 #[.pointer (some ⟨x, 0, none⟩), .slice A l.length c] w fun e w' => ∃ v, e = .returned v ∧ ErrC w' (takeIE F now st l) v ∧ IK w' x g F now n (takeIS F now st l) ∧ Only g w w' := by
  have H := Aside0.mk h
  have HN := Aside0.mk hn
  have HB := Aside0.mk hB
  clear h hn
  go_enter Tryd.func19, Tryd.ntmps19
  go_wp2_with fail
  refine (Decode_calls A c l w hC hc hl hB).mono ?_
  rintro e w1 ⟨v1, e1, rfl, hE, ⟨A1, c1, rfl, hc1, hC1⟩, hb⟩
  have H1 := Aside0.mk (H.out.below hb)
  have B1 := Aside0.mk hb
  have C1 := Aside0.mk hC1
  have HL := Aside0.mk (decD_len l)
  clear hC hc hl hB hb hC1 H hc1
  by_cases hd : decE l = 0
  · rw [hd] at hE
    have := hE.nil; subst this
    have HD := Aside0.mk hd
    have HT : Aside0 (takeIE F now st l = takeE F now st (decC l) (decQ l) (decD l).length ∧ takeIS F now st l = takeS F now st (decC l) (decQ l) (decD l)) := ⟨if_pos hd, if_pos hd⟩
    have HBS := Aside0.mk (bytesS_take (F := F) (now := now) (ch := decC l) (sq := decQ l) H1.out.by_ (bytes_decD HB.out))
    clear hE hd
    go_upto_region 3 with fail
    obtain ⟨w2, hw2⟩ : ∃ w2, w2 = w1.alloc (.cells #[.int .i64 (decC l), .int .i64 (decQ l), .slice A1 (decD l).length c1] 80) := ⟨_, rfl⟩
    have hb : Below w1.heap.size w1 w2 := by rw [hw2]; exact below_alloc (Below.refl _ _) _
    have HF : Aside0 (w2.heap[w1.heap.size]? = some (.cells #[.int .i64 (decC l), .int .i64 (decQ l), .slice A1 (decD l).length c1] 80 (0, 0))) := ⟨by rw [hw2]; exact heap_new _ _⟩
    rw [← hw2]
    have H2 := Aside0.mk (H1.out.below hb)
    have C2 := Aside0.mk (Kd.C_below C1.out hb)
    have B2 := Aside0.mk (below_thenB B1.out hb B1.out.size)
    have HGF := Aside0.mk (show w1.heap.size ≠ g by have := H1.out.lk.lt; omega)
    clear hw2 hb H1 C1 B1
    have k0 : World.cell? w2 ⟨x, 0, none⟩ = some (.pointer (some ⟨g, 0, none⟩)) := cell_of_heap H2.out.obj 0
    have q0 : World.cell? w2 ⟨w1.heap.size, 0, none⟩ = some (.int .i64 (decC l)) := cell_of_heap HF.out 0
    have q1 : World.cell? w2 ⟨w1.heap.size, 1, none⟩ = some (.int .i64 (decQ l)) := cell_of_heap HF.out 1
    have q2 : World.cell? w2 ⟨w1.heap.size, 2, none⟩ = some (.slice A1 (decD l).length c1) := cell_of_heap HF.out 2
    refine wp_region_last_drew (S := (fun W => W.cell? ⟨x, 0, none⟩ = some (.pointer (some ⟨g, 0, none⟩)) ∧ W.cell? ⟨w1.heap.size, 0, none⟩ = some (.int .i64 (decC l)) ∧ W.cell? ⟨w1.heap.size, 1, none⟩ = some (.int .i64 (decQ l)) ∧ W.cell? ⟨w1.heap.size, 2, none⟩ = some (.slice A1 (decD l).length c1))) (ds := [5, 6]) (by kernel_rfl) ?_ (fun hHeld => ?_)
    · exact ⟨k0, q0, q1, q2⟩
    refine wpAnyLast_take (i := 0) (oi := { dst := some 14, op := Go.Op.move (Go.Operand.tmp 0), type := 25, pos := "inputs.go:30", after := #[], guard := none }) (v := ?vz0) rfl (by kernel_rfl) (by kernel_rfl) (by kernel_rfl) (by kernel_rfl) (by kernel_rfl) (fun _ _ _ h => h) (Or.inl ⟨by rfl, ?yz0⟩) (by assumption) ?rz0
    case yz0 => (((intro w hSw; (try dsimp only at hSw); go_simp) <;> with_reducible rfl))
    try simp only [put_]
    refine wpAnyLast_take (i := 1) (oi := { dst := some 15, op := Go.Op.nilCheck (Go.Operand.tmp 14), type := 0, pos := "inputs.go:30", after := #[{ on := 0, ground := Go.Ground.data }], guard := none }) (v := ?vz1) rfl (by kernel_rfl) (by kernel_rfl) (by kernel_rfl) (by kernel_rfl) (by kernel_rfl) (fun _ _ _ h => h) (Or.inl ⟨by rfl, ?yz1⟩) (by assumption) ?rz1
    case yz1 => (((intro w hSw; (try dsimp only at hSw); go_simp) <;> with_reducible rfl))
    try simp only [put_]
    refine wpAnyLast_take (i := 2) (oi := { dst := some 16, op := Go.Op.fieldAddr 58 (Go.Operand.tmp 15) 0, type := 0, pos := "inputs.go:30", after := #[{ on := 1, ground := Go.Ground.data }], guard := none }) (v := ?vz2) rfl (by kernel_rfl) (by kernel_rfl) (by kernel_rfl) (by kernel_rfl) (by kernel_rfl) (fun _ _ _ h => h) (Or.inl ⟨by rfl, ?yz2⟩) (by assumption) ?rz2
    case yz2 => (((intro w hSw; (try dsimp only at hSw); go_simp) <;> with_reducible rfl))
    try simp only [put_]
    refine wpAnyLast_take (i := 3) (oi := { dst := some 17, op := Go.Op.load 55 (Go.Operand.tmp 16), type := 55, pos := "inputs.go:30", after := #[{ on := 2, ground := Go.Ground.data }], guard := none }) (v := ?vz3) rfl (by kernel_rfl) (by kernel_rfl) (by kernel_rfl) (by kernel_rfl) (by kernel_rfl) (fun _ _ _ h => h) (Or.inl ⟨by rfl, ?yz3⟩) (by assumption) ?rz3
    case yz3 => (((intro w hSw; (try dsimp only at hSw); go_simp) <;> with_reducible rfl))
    try simp only [put_]
    refine wpAnyLast_take (i := 4) (oi := { dst := some 18, op := Go.Op.load 80 (Go.Operand.tmp 5), type := 80, pos := "inputs.go:30", after := #[], guard := none }) (v := ?vz4) rfl (by kernel_rfl) (by kernel_rfl) (by kernel_rfl) (by kernel_rfl) (by kernel_rfl) (fun _ _ _ h => h) (Or.inl ⟨by rfl, ?yz4⟩) (by assumption) ?rz4
    case yz4 => (((intro w hSw; (try dsimp only at hSw); go_simp) <;> with_reducible rfl))
    try simp only [put_]
    refine wpAnyLast_ready (rs := [5]) (by kernel_rfl) (by simp) ?_
    refine AllReadyL.cons_last (o := { dst := some 19, op := Go.Op.call { callee := Go.Callee.value (Go.Operand.func 47), args := #[Go.Operand.tmp 17, Go.Operand.tmp 18], argTypes := #[55, 80] }, type := 42, pos := "inputs.go:30", after := #[{ on := 3, ground := Go.Ground.data }, { on := 4, ground := Go.Ground.data }], guard := none }) rfl (by decide) (fun K hK => ?kz5) AllReadyL.nil
    go_simp
    refine (Take_calls w2.drew (H2.out.lk.below (below_drew (Below.refl _ _))) HN.out (decC l) (decQ l) A1 (decD l).length c1 (decD l) (Kd.C_below C2.out (below_drew (Below.refl _ _))) (by have := HL.out; omega)).mono ?_
    rintro e w3 ⟨v3, rfl, hE3, hL3, hO3⟩
    have O3 : Aside0 (Only g w2 w3) := ⟨(drew_only w2 g).trans hO3⟩
    have hlt3 := H2.out.lk.lt
    have hx3 := heap_lt H2.out.obj
    have hne3 := H2.out.ne
    have I3 : Aside0 (IK w3 x g F now n (takeS F now st (decC l) (decQ l) (decD l))) := ⟨⟨heap_only O3.out H2.out.ne H2.out.obj, hL3.mono (fun k hk => hk.elim id (fun h => ⟨by have h2 : w2.heap.size ≤ k := h; omega, by have h2 : w2.heap.size ≤ k := h; omega⟩)) (fun k hk => by have := hk.1; omega), H2.out.ne, H2.out.hn, HBS.out⟩⟩
    have E3 : Aside0 (ErrC w3 (takeE F now st (decC l) (decQ l) (decD l).length) v3) := ⟨hE3.imp id (fun h => ⟨h.1, _, h.2⟩)⟩
    clear hE3 hL3 hO3 hlt3 hx3 hne3
    go_simp
    refine hK.out _ _ ?_
    clear hK K
    try simp only [put_]
    refine wpAnyLast_ready (rs := [6]) (by kernel_rfl) (by simp) ?_
    refine AllReadyL.cons_last (o := { dst := some 6, op := Go.Op.assign (Go.Operand.tmp 19), type := 42, pos := "inputs.go:30", after := #[{ on := 5, ground := Go.Ground.data }, { on := 5, ground := Go.Ground.chain }, { on := 0, ground := Go.Ground.phase }, { on := 1, ground := Go.Ground.phase }, { on := 2, ground := Go.Ground.phase }, { on := 3, ground := Go.Ground.phase }, { on := 4, ground := Go.Ground.phase }, { on := 5, ground := Go.Ground.phase }], guard := none }) rfl (by decide) (fun K hK => ?kz6) AllReadyL.nil
    go_simp
    refine hK.out _ _ ?_
    clear hK K
    try simp only [put_]
    refine wpAnyLast_done (by kernel_rfl) ?_ _
    go_wp2_with fail
    refine (wrap_calls v3 _ w3 E3.out).mono ?_
    rintro e w4 ⟨v4, rfl, hE4, hb4⟩
    have I4 := Aside0.mk (I3.out.below hb4)
    have E4 := Aside0.mk hE4
    have O4 := Aside0.mk (O3.out.trans (Only.of_below g hb4))
    clear hE4 hb4
    go_wp2_with fail
    go_ret
    rw [HT.out.1, HT.out.2]
    exact ⟨_, rfl, E4.out, I4.out, (Only.of_below g B2.out).trans O4.out⟩
  · have HT : Aside0 (takeIE F now st l = decE l ∧ takeIS F now st l = st) := ⟨if_neg hd, if_neg hd⟩
    have hP := hE.err hd
    obtain ⟨ty, y, rfl⟩ := hP.iface
    have HP := Aside0.mk hP
    have HD := Aside0.mk hd
    clear hE hd hP
    go_wp2_with fail
    have hb2 := below_alloc (Below.refl w1.heap.size w1) (.cells #[.int .i64 (decC l), .int .i64 (decQ l), .slice A1 (decD l).length c1] 80)
    refine (wrap_calls _ (decE l) _ (.inr ⟨HD.out, _, HP.out.below ⟨hb2⟩⟩)).mono ?_
    rintro e w4 ⟨v4, rfl, hE4, hb4⟩
    have I4 := Aside0.mk ((H1.out.below hb2).below hb4)
    have E4 := Aside0.mk hE4
    have B4 := Aside0.mk (below_thenB B1.out (below_thenB hb2 hb4 hb2.size) B1.out.size)
    clear hE4 hb4 hb2
    go_wp2_with fail
    go_ret
    rw [HT.out.1, HT.out.2]
    exact ⟨_, rfl, E4.out, I4.out, Only.of_below g B4.out⟩
end Go.Proofs.YtfijlaahifeimaaDoor.PE
/- inputs: Step, of any telegrams. -/
namespace Go.Proofs.YtfijlaahifeimaaDoor.PE
open Go.RowKit Go.Extern.Stop Go.Stop Go.Extern Go.Proofs.YtfijlaahifeimaaDoorW.PrintWords Go.Proofs.YtfijlaahifeimaaDoorW.PrintLast Go.Proofs.YtfijlaahifeimaaDoorW.PrintMore Go.Proofs.YtfijlaahifeimaaDoor.PS
set_option linter.unusedVariables false
set_option linter.unusedSimpArgs false
/-- A row of rows: each row. -/
theorem row_at {w : World} {A : Option Addr} {n : Nat} {l : List (List Int)} (h : Kd.C (Kd.slice 5 (Kd.int .u8)) w A n l) (i : Nat) (hi : i < n) :
    ∃ ad B c, A = some ad ∧ w.cell? (ad.add i) = some (.slice B (l.getD i []).length c) ∧ (l.getD i []).length ≤ c ∧ Kd.C (Kd.int .u8) w B (l.getD i []).length (l.getD i []) := by
  obtain ⟨ad, cs, e, _, ⟨B, c, rfl, hl, hC⟩, hc⟩ := Kd.C_get h ([] : List Int) (i : Int) (by omega) (by omega)
  rw [Int.toNat_natCast] at hl hC hc
  have h0 := hc 0 _ rfl
  have e2 : i * (Kd.slice 5 (Kd.int .u8)).sz + 0 = i := by show i * 1 + 0 = i; omega
  rw [e2] at h0
  exact ⟨ad, B, c, e, h0, hl, hC⟩
/-- One telegram of a tick: how many were taken, what is known. -/
def stepF (F now : Int) (p : Int × (Nat → Ch)) (b : List Int) : Int × (Nat → Ch) := (if takeIE F now p.2 b = 0 then p.1 + 1 else p.1, takeIS F now p.2 b)
def stepI (F now : Int) (st : Nat → Ch) (l : List (List Int)) : Int × (Nat → Ch) := l.foldl (stepF F now) (0, st)
theorem stepF_take (F now : Int) (st : Nat → Ch) (l : List (List Int)) (k : Nat) (hk : k < l.length) : (l.take (k + 1)).foldl (stepF F now) (0, st) = stepF F now ((l.take k).foldl (stepF F now) (0, st)) (l.getD k []) := by
  rw [List.take_succ_eq_append_getElem hk, List.foldl_append, List.getD_eq_getElem?_getD, List.getElem?_eq_getElem hk]
  rfl
theorem stepF_le (F now : Int) (st : Nat → Ch) : ∀ (l : List (List Int)) (p : Int × (Nat → Ch)), p.1 ≤ (l.foldl (stepF F now) p).1 ∧ (l.foldl (stepF F now) p).1 ≤ p.1 + l.length
  | [], p => by simp
  | b :: l, p => by
    have h := stepF_le F now st l (stepF F now p b)
    have h1 : p.1 ≤ (stepF F now p b).1 ∧ (stepF F now p b).1 ≤ p.1 + 1 := by unfold stepF; dsimp only; split <;> omega
    rw [List.foldl_cons, List.length_cons]
    omega
def BytesL (l : List (List Int)) : Prop := ∀ b ∈ l, Bytes b ∧ b.length ≤ 140737488351232
theorem bytesL_at {l : List (List Int)} (h : BytesL l) (k : Nat) (hk : k < l.length) : Bytes (l.getD k []) ∧ (l.getD k []).length ≤ 140737488351232 := by
  rw [List.getD_eq_getElem?_getD, List.getElem?_eq_getElem hk]
  exact h _ (List.getElem_mem hk)
theorem ErrC.cases {W : World} {c : Int} {v : Value} (h : ErrC W c v) : (c = 0 ∧ v = .nilIface) ∨ (¬ c = 0 ∧ ∃ t y, v = .iface t y) := by
  rcases h with h | ⟨hc, p, hp⟩
  · exact .inl h
  · exact .inr ⟨hc, hp.iface⟩
set_option maxHeartbeats 8000000 in
set_option maxRecDepth 100000 in
theorem IStep_calls {x g : Nat} {F now : Int} {n : Nat} {st : Nat → Ch} (w : World) (h : IK w x g F now n st) (hn : now + 1 ≤ 1000000) (A : Option Addr) (c : Nat) (l : List (List Int)) (hC : ∀ W, Only g w W → Kd.C (Kd.slice 5 (Kd.int .u8)) W A l.length l) (hl : l.length ≤ 140737488351232) (hB : BytesL l) :
    Calls Tryd.prog 13 #[.pointer (some ⟨x, 0, none⟩), .slice A l.length c] w fun e w' => e = .returned (.int .i64 (stepI F (now + 1) st l).1) ∧ IK w' x g F (now + 1) n (stepI F (now + 1) st l).2 ∧ Only g w w' := by
  have HN := Aside0.mk hn
  have HB := Aside0.mk hB
  have HC := Aside0.mk hC
  have HLL := Aside0.mk hl
  have H0 := Aside0.mk h
  clear h hn hB hC hl
  go_enter Tryd.func13, Tryd.ntmps13
  go_wp2_with fail
  refine (ITick_calls w H0.out (by have := HN.out; omega)).mono ?_
  rintro e w1 ⟨rfl, hI, hO⟩
  have I1 := Aside0.mk hI
  have O1 := Aside0.mk hO
  clear hI hO H0
  go_wp2_with fail
  go_loopw [5, 12] (fun s i W => ∃ k : Nat, k ≤ l.length ∧ i = .int .i64 k ∧ s = .int .i64 ((l.take k).foldl (stepF F (now + 1)) (0, st)).1 ∧ Aside0 (IK W x g F (now + 1) n ((l.take k).foldl (stepF F (now + 1)) (0, st)).2) ∧ Aside0 (Only g w W)) (fun _ i _ => l.length - (intOf i).toNat)
  case atStart => exact ⟨0, by omega, rfl, rfl, I1, O1⟩
  case round =>
    obtain ⟨k, hk, rfl, rfl, IR, OR⟩ := hrel
    have hle := stepF_le F (now + 1) st (l.take k) (0, st)
    have hln : (l.take k).length ≤ k := List.length_take_le _ _
    generalize hP : (l.take k).foldl (stepF F (now + 1)) (0, st) = P at hle IR
    have HP := Aside0.mk hP
    obtain ⟨m, S⟩ := P
    clear hP
    dsimp only at hle IR ⊢
    by_cases hlt : k < l.length
    · have dk : decide (k < l.length) = true := decide_eq_true hlt
      obtain ⟨ad, Bk, ck, rfl, hcell, hck, hCk⟩ := row_at (HC.out wr OR.out) k hlt
      have hby := bytesL_at HB.out k hlt
      have HST := Aside0.mk (stepF_take F (now + 1) st l k hlt)
      have hm1 : 0 ≤ m ∧ m ≤ 140737488351232 := by have := HLL.out; omega
      have hk1 : k ≤ 140737488351232 := by have := HLL.out; omega
      generalize l.getD k [] = b at hcell hck hCk hby HST
      have HBY := Aside0.mk hby
      have HCK := Aside0.mk hck
      have HCC := Aside0.mk hCk
      have HLT := Aside0.mk hlt
      clear hby hck hCk hle hln
      go_wp2_with fail
      refine (ITake_calls wr IR.out HN.out Bk ck b HCC.out HCK.out HBY.out.2 HBY.out.1).mono ?_
      rintro e w3 ⟨v3, rfl, hE, hI, hO⟩
      have I3 := Aside0.mk hI
      have O3 := Aside0.mk (OR.out.trans hO)
      clear hI hO
      rcases hE.cases with ⟨hc0, rfl⟩ | ⟨hc0, ty, y, rfl⟩
      · have HS : Aside0 ((l.take (k + 1)).foldl (stepF F (now + 1)) (0, st) = (m + 1, takeIS F (now + 1) S b)) := ⟨by rw [HST.out, HP.out]; unfold stepF; dsimp only; rw [if_pos hc0]⟩
        clear hE hc0
        go_wp2_with fail
        go_roundw
        case rel => exact ⟨k + 1, HLT.out, rfl, by rw [HS.out], by rw [HS.out]; exact I3, O3⟩
        case measure => have := HLT.out; simp [intOf]; omega
      · have HS : Aside0 ((l.take (k + 1)).foldl (stepF F (now + 1)) (0, st) = (m, takeIS F (now + 1) S b)) := ⟨by rw [HST.out, HP.out]; unfold stepF; dsimp only; rw [if_neg hc0]⟩
        clear hE hc0
        go_wp2_with fail
        go_roundw
        case rel => exact ⟨k + 1, HLT.out, rfl, by rw [HS.out], by rw [HS.out]; exact I3, O3⟩
        case measure => have := HLT.out; simp [intOf]; omega
    · have dk : decide (k < l.length) = false := decide_eq_false hlt
      have hkl : k = l.length := by omega
      subst hkl
      have HS : Aside0 (stepI F (now + 1) st l = (m, S)) := ⟨by rw [← HP.out, List.take_length]; rfl⟩
      clear hle hln
      go_wp2_with fail
      go_ret
      rw [HS.out]
      exact ⟨rfl, IR.out, OR.out⟩
end Go.Proofs.YtfijlaahifeimaaDoor.PE
/- inputs: the reference's Same of two that are the same; Few of any; a telegram's bytes. -/
namespace Go.Proofs.YtfijlaahifeimaaDoor.PS
open Go.RowKit Go.Proofs.YtfijlaahifeimaaDoorW.PrintWords Go.Proofs.YtfijlaahifeimaaDoorW.PrintLast Go.Proofs.YtfijlaahifeimaaDoorW.PrintMore
set_option linter.unusedVariables false
set_option linter.unusedSimpArgs false
theorem few_l1 (x0 : List (List (List Int))) (P : Bool → Prop) (x4 : Int) (h0 : 0 ≤ x4) (h1 : x4 < x0.length) (hz : (rd_L2 x0 x4).length ≤ 140737488351232) (hn : ∀ x3, ∃ k r, crossbucklaw14_Few.l0 k x0 x3 (wrap64 (x4 + 1)) = some r ∧ P r) :
    ∀ (d : Nat) (x3 x5 : Int), 0 ≤ x5 → x5 + (d : Int) = (rd_L2 x0 x4).length → ∃ k r, crossbucklaw14_Few.l1 k x0 x3 x4 x5 = some r ∧ P r
  | 0, x3, x5, a, b => by
    obtain ⟨k, r, h, hp⟩ := hn x3
    exact ⟨k + 1, r, by rw [crossbucklaw14_Few.l1, if_pos h0, if_pos h1, if_neg (by omega)]; exact h, hp⟩
  | d + 1, x3, x5, a, b => by
    have hw : wrap64 (x5 + 1) = x5 + 1 := by unfold wrap64; omega
    obtain ⟨k, r, h, hp⟩ := few_l1 x0 P x4 h0 h1 hz hn d (wrap64 (x3 + ((rd_L1 (rd_L2 x0 x4) x5).length : Int))) (x5 + 1) (by omega) (by omega)
    exact ⟨k + 1, r, by rw [crossbucklaw14_Few.l1, if_pos h0, if_pos h1, if_pos (by omega), if_pos a, hw]; exact h, hp⟩
theorem few_l0 (x0 : List (List (List Int))) (hz : x0.length ≤ 140737488351232) (hr : ∀ r ∈ x0, r.length ≤ 140737488351232) :
    ∀ (d : Nat) (x3 x4 : Int), 0 ≤ x4 → x4 + (d : Int) = x0.length → ∃ k r, crossbucklaw14_Few.l0 k x0 x3 x4 = some r ∧ (r = true → x0.length ≤ 200)
  | 0, x3, x4, a, b => by
    by_cases h : (x0.length : Int) ≤ 200
    · exact ⟨1, _, by rw [crossbucklaw14_Few.l0, if_neg (by omega), if_pos h], fun _ => by omega⟩
    · exact ⟨1, false, by rw [crossbucklaw14_Few.l0, if_neg (by omega), if_neg h], fun h => by simp at h⟩
  | d + 1, x3, x4, a, b => by
    have hw : wrap64 (x4 + 1) = x4 + 1 := by unfold wrap64; omega
    have hlr : (rd_L2 x0 x4).length ≤ 140737488351232 := by
      unfold rd_L2
      rw [List.getD_eq_getElem?_getD, List.getElem?_eq_getElem (by omega)]
      exact hr _ (List.getElem_mem _)
    obtain ⟨k, r, h, hp⟩ := few_l1 x0 (fun r => r = true → x0.length ≤ 200) x4 a (by omega) hlr (fun x3' => by rw [hw]; exact few_l0 x0 hz hr d x3' (x4 + 1) (by omega) (by omega)) (rd_L2 x0 x4).length (wrap64 (x3 + ((rd_L2 x0 x4).length : Int))) 0 (by omega) (by omega)
    exact ⟨k + 1, r, by rw [crossbucklaw14_Few.l0, if_pos (by omega), if_pos a]; exact h, hp⟩
end Go.Proofs.YtfijlaahifeimaaDoor.PS
namespace Go.Proofs.YtfijlaahifeimaaDoor.PE
open Go.RowKit Go.Extern.Stop Go.Stop Go.Extern Go.Proofs.YtfijlaahifeimaaDoorW.PrintWords Go.Proofs.YtfijlaahifeimaaDoorW.PrintLast Go.Proofs.YtfijlaahifeimaaDoorW.PrintMore Go.Proofs.YtfijlaahifeimaaDoor.PS
set_option linter.unusedVariables false
set_option linter.unusedSimpArgs false
def Small3 (l : List (List (List Int))) : Prop := l.length ≤ 140737488351232 ∧ ∀ r ∈ l, r.length ≤ 140737488351232 ∧ BytesL r
theorem Few_calls (A : Option Addr) (c : Nat) (l : List (List (List Int))) (w : World) (h : Kd.C (Kd.slice 44 (Kd.slice 5 (Kd.int .u8))) w A l.length l) (hc : l.length ≤ c) (hs : Small3 l) :
    Calls Tryd.prog 10 #[.slice A l.length c] w fun e w' => ∃ r, e = .returned (.bool r) ∧ (r = true → l.length ≤ 200) ∧ Below w.heap.size w w' := by
  obtain ⟨k, r, hr, hp⟩ := few_l0 l hs.1 (fun r hr => (hs.2 r hr).1) l.length 0 0 (by omega) (by omega)
  refine (crossbucklaw14_Few.calls k A c l r w h hc hr).mono ?_
  rintro e w' ⟨rfl, hd⟩
  exact ⟨_, rfl, hp, hd.below⟩
theorem and255 (x : Int) : bits .and .i64 x 255 = x % 256 := by
  show IntKind.i64.wrap ((BitVec.ofInt 64 x &&& BitVec.ofInt 64 255).toNat : Int) = _
  have h8 : (BitVec.ofInt 64 255).toNat = 2 ^ 8 - 1 := by decide
  rw [BitVec.toNat_and, BitVec.toNat_ofInt, h8, Nat.and_two_pow_sub_one_eq_mod]
  have e : (((x % ((2 ^ 64 : Nat) : Int)).toNat % 2 ^ 8 : Nat) : Int) = x % 256 := by omega
  rw [e]
  rw [IntKind.wrap_i64]
  omega
set_option maxHeartbeats 1000000 in
theorem Tele_calls (ch sq : Int) (A : Option Addr) (c : Nat) (xs : List Int) (w : World) (hC : Kd.C (Kd.int .u8) w A xs.length xs) (hc : xs.length ≤ c) (hx : xs.length ≤ 300) :
    Calls Tryd.prog 23 #[.int .i64 ch, .int .i64 sq, .slice A xs.length c] w fun e w' => ∃ v, e = .returned v ∧ Kd.R (Kd.int .u8) 5 w' w.heap.size (fun _ => True) v (encB ch (sq % 256) xs) ∧ Below w.heap.size w w' := by
  have e := and255 sq
  have HE := Aside0.mk e
  clear e
  go_enter Tryd.func23, Tryd.ntmps23
  go_wp2_with fail
  refine (REncode_calls ch (bits .and .i64 sq 255) A c xs w hC hc hx).mono ?_
  rintro e w' ⟨v, rfl, hR, hb⟩
  rw [HE.out] at hR
  rw [HE.out]
  have R := Aside0.mk hR
  have B := Aside0.mk hb
  clear hR hb hC hc hx
  generalize encE ch (sq % 256) xs.length = E
  go_wp2_with fail
  go_ret
  exact ⟨_, rfl, R.out, B.out⟩
/-- A row of rows of rows: each row. -/
theorem row3_at {w : World} {A : Option Addr} {n : Nat} {l : List (List (List Int))} (h : Kd.C (Kd.slice 44 (Kd.slice 5 (Kd.int .u8))) w A n l) (i : Nat) (hi : i < n) :
    ∃ ad B c, A = some ad ∧ w.cell? (ad.add i) = some (.slice B (l.getD i []).length c) ∧ (l.getD i []).length ≤ c ∧ Kd.C (Kd.slice 5 (Kd.int .u8)) w B (l.getD i []).length (l.getD i []) := by
  obtain ⟨ad, cs, e, _, ⟨B, c, rfl, hl, hC⟩, hc⟩ := Kd.C_get h ([] : List (List Int)) (i : Int) (by omega) (by omega)
  rw [Int.toNat_natCast] at hl hC hc
  have h0 := hc 0 _ rfl
  have e2 : i * (Kd.slice 44 (Kd.slice 5 (Kd.int .u8))).sz + 0 = i := by show i * 1 + 0 = i; omega
  rw [e2] at h0
  exact ⟨ad, B, c, e, h0, hl, hC⟩
theorem small3_at {l : List (List (List Int))} (h : Small3 l) (k : Nat) (hk : k < l.length) : (l.getD k []).length ≤ 140737488351232 ∧ BytesL (l.getD k []) := by
  rw [List.getD_eq_getElem?_getD, List.getElem?_eq_getElem hk]
  exact h.2 _ (List.getElem_mem hk)
theorem F_is (f : Int) : 1 ≤ max 1 (min f 6000) ∧ max 1 (min f 6000) ≤ 6000 := by omega
end Go.Proofs.YtfijlaahifeimaaDoor.PE
/- inputs: the small case of the statements. -/
namespace Go.Proofs.YtfijlaahifeimaaDoor.PE
open Go.RowKit Go.Extern.Stop Go.Stop Go.Extern Go.Proofs.YtfijlaahifeimaaDoorW.PrintWords Go.Proofs.YtfijlaahifeimaaDoorW.PrintLast Go.Proofs.YtfijlaahifeimaaDoorW.PrintMore Go.Proofs.YtfijlaahifeimaaDoor.PS
set_option linter.unusedVariables false
set_option linter.unusedSimpArgs false
theorem R_onlyS {α : Type} {d : Kd α} {e g base : Nat} {w w' : World} {ok : Nat → Prop} {v : Value} {xs : List α} (h : Kd.R d e w base ok v xs) (hO : Only g w w') (hne : ∀ k, ok k → k ≠ g) : Kd.R d e w' base ok v xs :=
  Kd.R_step h (fun k hk hl => hO.block k hl (hne k hk))
theorem R_fromS {α : Type} {d : Kd α} {e base : Nat} {w : World} {v : Value} {xs : List α} (h : Kd.R d e w base (fun _ => True) v xs) : Kd.R d e w base (fun k => base ≤ k) v xs :=
  Kd.R_mono (Kd.R_bound h) (fun _ hk => hk.2.1)
theorem ErrC.only {W W' : World} {x g : Nat} {F now : Int} {n : Nat} {st : Nat → Ch} (hI : IK W x g F now n st) (hO : Only g W W') {c : Int} {v : Value} (e : ErrC W c v) : ErrC W' c v :=
  e.imp id (fun e => ⟨e.1, e.2.imp fun _ p => ErrP.only hO (by obtain ⟨cs, hcs⟩ := hI.lk.blk; exact ⟨cs, _, hcs, by decide⟩) p⟩)
def s0 : Nat → Ch := fun _ => Ch.zero
def t1 : List Int := encB 3 (1 % 256) [0]
def t2 : List Int := encB 3 (1 % 256) [1]
def t3 : List Int := encB 9 (4 % 256) [3, 3, 1, 0]
def s1 : Nat → Ch := takeIS 2 0 s0 t1
def s2 : Nat → Ch := (stepI 2 1 s1 [t3, []]).2
theorem small1 : takeIE 2 0 s0 t1 = 0 ∧ takeIE 2 0 s1 t2 = 4 ∧ takeIE 2 0 s1 [1, 2, 3] = 3 ∧ (stepI 2 1 s1 [t3, []]).1 = 1 := by decide +kernel
theorem small2 : takeIS 2 0 s1 t2 = s1 ∧ takeIS 2 0 s1 [1, 2, 3] = s1 := by
  have h1 : decE t2 = 0 := by decide +kernel
  have h2 : ¬ decE [1, 2, 3] = 0 := by decide +kernel
  have h3 : takeE 2 0 s1 (decC t2) (decQ t2) (decD t2).length ≠ 0 := by decide +kernel
  refine ⟨?_, if_neg h2⟩
  unfold takeIS
  rw [if_pos h1]
  unfold takeS
  rw [if_neg h3]
theorem small0 : trk 2 = 2 ∧ max 1 (min (2 : Int) 6000) = 2 := by decide
def valZ (mo : Int) (ob : Bool) (v : Value) : Value := .agg #[.bool false, .bool false, .bool false, .bool false, .bool false, .bool false, .bool ob, .int .i64 mo, .bool false, .bool false, .int .i64 0, v]
theorem now0 : (∀ v, (nowI 2 0 s0 2).val v = valZ 1 true v) ∧ (nowI 2 0 s0 2).tracks = [⟨false, 0, 0, 0, 0⟩, ⟨false, 0, 0, 0, 0⟩] := ⟨fun v => by kernel_rfl, by kernel_rfl⟩
theorem now1 : (∀ v, (nowI 2 1 s2 2).val v = valZ 0 true v) ∧ (nowI 2 1 s2 2).tracks = [⟨false, 0, 0, 0, 0⟩, ⟨true, 3, 3, 1, 0⟩] := ⟨fun v => by kernel_rfl, by kernel_rfl⟩
theorem now3 : (∀ v, (nowI 2 3 s2 2).val v = valZ 1 true v) ∧ (nowI 2 3 s2 2).tracks = [⟨false, 0, 0, 0, 0⟩, ⟨true, 3, 3, 1, 0⟩] := ⟨fun v => by kernel_rfl, by kernel_rfl⟩
theorem t_facts : t1.length = 6 ∧ t2.length = 6 ∧ t3.length = 9 := by decide +kernel
theorem t_bytes : Bytes t1 ∧ Bytes t2 ∧ Bytes t3 ∧ Bytes [1, 2, 3] := by
  have e1 : t1 = encL 3 1 [0] := by decide +kernel
  have e2 : t2 = encL 3 1 [1] := by decide +kernel
  have e3 : t3 = encL 9 4 [3, 3, 1, 0] := by decide +kernel
  refine ⟨?_, ?_, ?_, by intro y hy; simp at hy; omega⟩
  · rw [e1]; exact bytes_enc (by intro y hy; simp at hy; omega) (by decide)
  · rw [e2]; exact bytes_enc (by intro y hy; simp at hy; omega) (by decide)
  · rw [e3]; exact bytes_enc (by intro y hy; simp at hy; omega) (by decide)
theorem C_rows2 {W : World} {b : Nat} {A : Option Addr} {n c : Nat} {l : List Int} (hb : W.heap[b]? = some (.cells #[.slice A n c, .slice none 0 0] 44 (0, 0))) (hn : l.length = n) (hc : n ≤ c) (hC : Kd.C (Kd.int .u8) W A n l) :
    Kd.C (Kd.slice 5 (Kd.int .u8)) W (some ⟨b, 0, none⟩) 2 [l, []] := by
  refine ⟨rfl, by decide, fun _ => ⟨⟨b, 0, none⟩, rfl, fun j p hj => ?_⟩⟩
  match j with
  | 0 =>
    have hp : l = p := by simpa using hj
    subst hp
    refine ⟨[.slice A n c], rfl, ⟨A, c, by rw [hn], by rw [hn]; exact hc, by rw [hn]; exact hC⟩, fun i u hu => ?_⟩
    match i with
    | 0 =>
      have hu : Value.slice A n c = u := by simpa using hu
      subst hu
      exact cell_of_heap hb 0
    | i + 1 => simp at hu
  | 1 =>
    have hp : [] = p := by simpa using hj
    subst hp
    refine ⟨[.slice none 0 0], rfl, ⟨none, 0, rfl, Nat.le_refl _, Kd.C_nil _ _⟩, fun i u hu => ?_⟩
    match i with
    | 0 =>
      have hu : Value.slice none 0 0 = u := by simpa using hu
      subst hu
      exact cell_of_heap hb 1
    | i + 1 => simp at hu
  | j + 2 => simp at hj
set_option maxHeartbeats 16000000 in
set_option maxRecDepth 100000 in
theorem small_calls (w : World) (hg : Gerr w) : Calls Tryd.prog 9 #[] w fun e w' => e = .returned (.bool true) ∧ Below w.heap.size w w' := by
  have HG := Aside0.mk hg
  clear hg
  go_enter Tryd.func9, Tryd.ntmps9
  go_wp2_with fail
  refine (INew_calls 2 2 w).mono ?_
  rintro e w1 ⟨x, g, rfl, hI, hx, hgg, hb⟩
  rw [small0.1, small0.2] at hI
  have I1 : Aside0 (IK w1 x g 2 0 2 s0) := ⟨hI⟩
  have B1 := Aside0.mk hb
  have HX := Aside0.mk hx
  have HGG := Aside0.mk hgg
  clear hI hb hx hgg
  go_wp2_with fail
  refine (Now_calls w1 I1.out.obj I1.out.lk (by decide) I1.out.hn).mono ?_
  rintro e w1n ⟨v1n, rfl, hR, hb⟩
  rw [now0.1, now0.2] at *
  obtain ⟨ARZ, cRZ, rfl, hcRZ, -⟩ := Kd.R_reads hR
  have RZ1n := Aside0.mk (R_fromS hR)
  have HNRZ := Aside0.mk (show g < w1.heap.size from I1.out.lk.lt)
  have hO : Only g w1 w1n := Only.of_below g hb
  have I1n := Aside0.mk (I1.out.below hb)
  have B1n := bonly B1 hO HGG.out
  clear hR hb hO hcRZ
  unfold valZ
  go_upto_region 5 with fail
  obtain ⟨w2, hw⟩ : ∃ y, y = w1n.alloc (.cells #[.bool false, .bool false, .bool false, .bool false, .bool false, .bool false, .bool true, .int .i64 1, .bool false, .bool false, .int .i64 0, .slice ARZ 2 cRZ] 36) := ⟨_, rfl⟩
  have hb : Below w1n.heap.size w1n w2 := by rw [hw]; exact below_alloc (Below.refl _ _) _
  have hO : Only g w1n w2 := Only.of_below g hb
  have HZ2 : Aside0 (w2.heap[w1n.heap.size]? = some (.cells #[.bool false, .bool false, .bool false, .bool false, .bool false, .bool false, .bool true, .int .i64 1, .bool false, .bool false, .int .i64 0, .slice ARZ 2 cRZ] 36 (0, 0))) := ⟨by rw [hw]; exact heap_new _ _⟩
  have HNHZ := Aside0.mk (show w1n.heap.size ≠ g by have := I1n.out.lk.lt; omega)
  rw [← hw]
  have I2 := Aside0.mk (I1n.out.below hb)
  have B2 := bonly B1n hO HGG.out
  have RZ2 := Aside0.mk (R_onlyS RZ1n.out hO (fun k hk => Nat.ne_of_gt (Nat.lt_of_lt_of_le HNRZ.out hk)))
  clear hb hO hw
  go_wp2_with fail
  obtain ⟨w3, hw⟩ : ∃ y, y = w2.alloc (.cells #[.int .u8 0] 5) := ⟨_, rfl⟩
  have hb : Below w2.heap.size w2 w3 := by rw [hw]; exact below_alloc (Below.refl _ _) _
  have hO : Only g w2 w3 := Only.of_below g hb
  have hCL : Kd.C (Kd.int .u8) w3 (some ⟨w2.heap.size, 0, none⟩) [0].length [0] := by rw [hw]; exact C_lit w2 [0] (by decide)
  rw [← hw]
  have I3 := Aside0.mk (I2.out.below hb)
  have B3 := bonly B2 hO HGG.out
  have HZ3 := Aside0.mk (heap_only hO (HNHZ.out) HZ2.out)
  have RZ3 := Aside0.mk (R_onlyS RZ2.out hO (fun k hk => Nat.ne_of_gt (Nat.lt_of_lt_of_le HNRZ.out hk)))
  clear hb hO hw
  refine (Tele_calls 3 1 _ _ [0] w3 hCL (by decide) (by decide)).mono ?_
  rintro e w4 ⟨v4, rfl, hR, hb⟩
  rw [show encB 3 (1 % 256) [0] = t1 from rfl] at hR
  obtain ⟨A4, c4, rfl, hc4, hCT⟩ := Kd.R_reads hR
  have hO : Only g w3 w4 := Only.of_below g hb
  have I4 := Aside0.mk (I3.out.below hb)
  have B4 := bonly B3 hO HGG.out
  have HZ4 := Aside0.mk (heap_only hO (HNHZ.out) HZ3.out)
  have RZ4 := Aside0.mk (R_onlyS RZ3.out hO (fun k hk => Nat.ne_of_gt (Nat.lt_of_lt_of_le HNRZ.out hk)))
  clear hR hb hO hCL
  go_wp2_with fail
  refine (ITake_calls w4 I4.out (by decide) A4 c4 t1 hCT hc4 (by rw [t_facts.1]; decide) t_bytes.1).mono ?_
  rintro e w5 ⟨v5, rfl, hE, hI, hO⟩
  rw [small1.1] at hE
  have I5 : Aside0 (IK w5 x g 2 0 2 s1) := ⟨hI⟩
  have EA5 := Aside0.mk hE
  have B5 := bonly B4 hO HGG.out
  have HZ5 := Aside0.mk (heap_only hO (HNHZ.out) HZ4.out)
  have RZ5 := Aside0.mk (R_onlyS RZ4.out hO (fun k hk => Nat.ne_of_gt (Nat.lt_of_lt_of_le HNRZ.out hk)))
  clear hE hI hO hCT
  rcases EA5.out with ⟨-, hea⟩ | ⟨hea, -⟩
  case inr => exact absurd rfl hea
  subst hea
  clear EA5
  go_wp2_with fail
  obtain ⟨w6, hw⟩ : ∃ y, y = w5.alloc (.cells #[.int .u8 1] 5) := ⟨_, rfl⟩
  have hb : Below w5.heap.size w5 w6 := by rw [hw]; exact below_alloc (Below.refl _ _) _
  have hO : Only g w5 w6 := Only.of_below g hb
  have hCL : Kd.C (Kd.int .u8) w6 (some ⟨w5.heap.size, 0, none⟩) [1].length [1] := by rw [hw]; exact C_lit w5 [1] (by decide)
  rw [← hw]
  have I6 := Aside0.mk (I5.out.below hb)
  have B6 := bonly B5 hO HGG.out
  have HZ6 := Aside0.mk (heap_only hO (HNHZ.out) HZ5.out)
  have RZ6 := Aside0.mk (R_onlyS RZ5.out hO (fun k hk => Nat.ne_of_gt (Nat.lt_of_lt_of_le HNRZ.out hk)))
  clear hb hO hw
  refine (Tele_calls 3 1 _ _ [1] w6 hCL (by decide) (by decide)).mono ?_
  rintro e w7 ⟨v7, rfl, hR, hb⟩
  rw [show encB 3 (1 % 256) [1] = t2 from rfl] at hR
  obtain ⟨A7, c7, rfl, hc7, hCT⟩ := Kd.R_reads hR
  have hO : Only g w6 w7 := Only.of_below g hb
  have I7 := Aside0.mk (I6.out.below hb)
  have B7 := bonly B6 hO HGG.out
  have HZ7 := Aside0.mk (heap_only hO (HNHZ.out) HZ6.out)
  have RZ7 := Aside0.mk (R_onlyS RZ6.out hO (fun k hk => Nat.ne_of_gt (Nat.lt_of_lt_of_le HNRZ.out hk)))
  clear hR hb hO hCL
  go_wp2_with fail
  refine (ITake_calls w7 I7.out (by decide) A7 c7 t2 hCT hc7 (by rw [t_facts.2.1]; decide) t_bytes.2.1).mono ?_
  rintro e w8 ⟨v8, rfl, hE, hI, hO⟩
  rw [small1.2.1] at hE
  have I8 : Aside0 (IK w8 x g 2 0 2 s1) := ⟨by rw [← small2.1]; exact hI⟩
  have EB8 := Aside0.mk hE
  have B8 := bonly B7 hO HGG.out
  have HZ8 := Aside0.mk (heap_only hO (HNHZ.out) HZ7.out)
  have RZ8 := Aside0.mk (R_onlyS RZ7.out hO (fun k hk => Nat.ne_of_gt (Nat.lt_of_lt_of_le HNRZ.out hk)))
  clear hE hI hO hCT
  go_wp2_with fail
  obtain ⟨w9, hw⟩ : ∃ y, y = w8.alloc (.cells #[.int .u8 1, .int .u8 2, .int .u8 3] 5) := ⟨_, rfl⟩
  have hb : Below w8.heap.size w8 w9 := by rw [hw]; exact below_alloc (Below.refl _ _) _
  have hO : Only g w8 w9 := Only.of_below g hb
  have hCT : Kd.C (Kd.int .u8) w9 (some ⟨w8.heap.size, 0, none⟩) [1, 2, 3].length [1, 2, 3] := by rw [hw]; exact C_lit w8 [1, 2, 3] (by decide)
  rw [← hw]
  have I9 := Aside0.mk (I8.out.below hb)
  have B9 := bonly B8 hO HGG.out
  have HZ9 := Aside0.mk (heap_only hO (HNHZ.out) HZ8.out)
  have RZ9 := Aside0.mk (R_onlyS RZ8.out hO (fun k hk => Nat.ne_of_gt (Nat.lt_of_lt_of_le HNRZ.out hk)))
  have EB9 := Aside0.mk (ErrC.only I8.out hO EB8.out)
  clear hb hO hw
  refine (ITake_calls w9 I9.out (by decide) _ 3 [1, 2, 3] hCT (by decide) (by rw [show ([1, 2, 3] : List Int).length = 3 from rfl]; decide) t_bytes.2.2.2).mono ?_
  rintro e w10 ⟨v10, rfl, hE, hI, hO⟩
  rw [small1.2.2.1] at hE
  have I10 : Aside0 (IK w10 x g 2 0 2 s1) := ⟨by rw [← small2.2]; exact hI⟩
  have EC10 := Aside0.mk hE
  have B10 := bonly B9 hO HGG.out
  have HZ10 := Aside0.mk (heap_only hO (HNHZ.out) HZ9.out)
  have RZ10 := Aside0.mk (R_onlyS RZ9.out hO (fun k hk => Nat.ne_of_gt (Nat.lt_of_lt_of_le HNRZ.out hk)))
  have EB10 := Aside0.mk (ErrC.only I9.out hO EB9.out)
  clear hE hI hO hCT
  go_wp2_with fail
  obtain ⟨w11, hw⟩ : ∃ y, y = w10.alloc (.cells #[.int .u8 3, .int .u8 3, .int .u8 1, .int .u8 0] 5) := ⟨_, rfl⟩
  have hb : Below w10.heap.size w10 w11 := by rw [hw]; exact below_alloc (Below.refl _ _) _
  have hO : Only g w10 w11 := Only.of_below g hb
  have hCL : Kd.C (Kd.int .u8) w11 (some ⟨w10.heap.size, 0, none⟩) [3, 3, 1, 0].length [3, 3, 1, 0] := by rw [hw]; exact C_lit w10 [3, 3, 1, 0] (by decide)
  rw [← hw]
  have I11 := Aside0.mk (I10.out.below hb)
  have B11 := bonly B10 hO HGG.out
  have HZ11 := Aside0.mk (heap_only hO (HNHZ.out) HZ10.out)
  have RZ11 := Aside0.mk (R_onlyS RZ10.out hO (fun k hk => Nat.ne_of_gt (Nat.lt_of_lt_of_le HNRZ.out hk)))
  have EB11 := Aside0.mk (ErrC.only I10.out hO EB10.out)
  have EC11 := Aside0.mk (ErrC.only I10.out hO EC10.out)
  clear hb hO hw
  refine (Tele_calls 9 4 _ _ [3, 3, 1, 0] w11 hCL (by decide) (by decide)).mono ?_
  rintro e w12 ⟨v12, rfl, hR, hb⟩
  rw [show encB 9 (4 % 256) [3, 3, 1, 0] = t3 from rfl] at hR
  obtain ⟨A12, c12, rfl, hc12, hCT⟩ := Kd.R_reads hR
  have hO : Only g w11 w12 := Only.of_below g hb
  have I12 := Aside0.mk (I11.out.below hb)
  have B12 := bonly B11 hO HGG.out
  have HZ12 := Aside0.mk (heap_only hO (HNHZ.out) HZ11.out)
  have RZ12 := Aside0.mk (R_onlyS RZ11.out hO (fun k hk => Nat.ne_of_gt (Nat.lt_of_lt_of_le HNRZ.out hk)))
  have EB12 := Aside0.mk (ErrC.only I11.out hO EB11.out)
  have EC12 := Aside0.mk (ErrC.only I11.out hO EC11.out)
  have RT12 := Aside0.mk (R_fromS hR)
  have HNRT := Aside0.mk (show g < w11.heap.size from I11.out.lk.lt)
  clear hR hb hO hCL hCT
  go_wp2_with fail
  obtain ⟨w13, hw⟩ : ∃ y, y = w12.alloc (.cells #[.slice A12 t3.length c12, .slice none 0 0] 44) := ⟨_, rfl⟩
  have hb : Below w12.heap.size w12 w13 := by rw [hw]; exact below_alloc (Below.refl _ _) _
  have hO : Only g w12 w13 := Only.of_below g hb
  have HR13 : Aside0 (w13.heap[w12.heap.size]? = some (.cells #[.slice A12 t3.length c12, .slice none 0 0] 44 (0, 0))) := ⟨by rw [hw]; exact heap_new _ _⟩
  have HNHR := Aside0.mk (show w12.heap.size ≠ g by have := I12.out.lk.lt; omega)
  rw [← hw]
  have I13 := Aside0.mk (I12.out.below hb)
  have B13 := bonly B12 hO HGG.out
  have HZ13 := Aside0.mk (heap_only hO (HNHZ.out) HZ12.out)
  have RZ13 := Aside0.mk (R_onlyS RZ12.out hO (fun k hk => Nat.ne_of_gt (Nat.lt_of_lt_of_le HNRZ.out hk)))
  have RT13 := Aside0.mk (R_onlyS RT12.out hO (fun k hk => Nat.ne_of_gt (Nat.lt_of_lt_of_le HNRT.out hk)))
  have EB13 := Aside0.mk (ErrC.only I12.out hO EB12.out)
  have EC13 := Aside0.mk (ErrC.only I12.out hO EC12.out)
  clear hb hO hw
  refine (IStep_calls w13 I13.out (by decide) (some ⟨w12.heap.size, 0, none⟩) 2 [t3, []] (fun W hW => C_rows2 (heap_only hW HNHR.out HR13.out) rfl hc12 (Kd.R_reads' (R_onlyS RT13.out hW (fun k hk => Nat.ne_of_gt (Nat.lt_of_lt_of_le HNRT.out hk)))).2.2) (by decide) (fun b hb => by
    simp at hb
    rcases hb with rfl | rfl
    · exact ⟨t_bytes.2.2.1, by rw [t_facts.2.2]; decide⟩
    · exact ⟨fun y hy => by simp at hy, by decide⟩)).mono ?_
  rintro e w14 ⟨rfl, hI, hO⟩
  rw [show (0 : Int) + 1 = 1 from rfl] at hI ⊢
  rw [small1.2.2.2]
  have I14 : Aside0 (IK w14 x g 2 1 2 s2) := ⟨hI⟩
  have B14 := bonly B13 hO HGG.out
  have HZ14 := Aside0.mk (heap_only hO (HNHZ.out) HZ13.out)
  have RZ14 := Aside0.mk (R_onlyS RZ13.out hO (fun k hk => Nat.ne_of_gt (Nat.lt_of_lt_of_le HNRZ.out hk)))
  have EB14 := Aside0.mk (ErrC.only I13.out hO EB13.out)
  have EC14 := Aside0.mk (ErrC.only I13.out hO EC13.out)
  clear hI hO HR13
  go_wp2_with fail
  refine (Now_calls w14 I14.out.obj I14.out.lk (by decide) I14.out.hn).mono ?_
  rintro e w14n ⟨v14n, rfl, hR, hb⟩
  rw [now1.1, now1.2] at *
  obtain ⟨ARY, cRY, rfl, hcRY, -⟩ := Kd.R_reads hR
  have RY14n := Aside0.mk (R_fromS hR)
  have HNRY := Aside0.mk (show g < w14.heap.size from I14.out.lk.lt)
  have hO : Only g w14 w14n := Only.of_below g hb
  have I14n := Aside0.mk (I14.out.below hb)
  have B14n := bonly B14 hO HGG.out
  have HZ14n := Aside0.mk (heap_only hO (HNHZ.out) HZ14.out)
  have RZ14n := Aside0.mk (R_onlyS RZ14.out hO (fun k hk => Nat.ne_of_gt (Nat.lt_of_lt_of_le HNRZ.out hk)))
  have EB14n := Aside0.mk (ErrC.only I14.out hO EB14.out)
  have EC14n := Aside0.mk (ErrC.only I14.out hO EC14.out)
  clear hR hb hO hcRY
  unfold valZ
  go_upto_region 10 with fail
  obtain ⟨w15, hw⟩ : ∃ y, y = w14n.alloc (.cells #[.bool false, .bool false, .bool false, .bool false, .bool false, .bool false, .bool true, .int .i64 0, .bool false, .bool false, .int .i64 0, .slice ARY 2 cRY] 36) := ⟨_, rfl⟩
  have hb : Below w14n.heap.size w14n w15 := by rw [hw]; exact below_alloc (Below.refl _ _) _
  have hO : Only g w14n w15 := Only.of_below g hb
  have HY15 : Aside0 (w15.heap[w14n.heap.size]? = some (.cells #[.bool false, .bool false, .bool false, .bool false, .bool false, .bool false, .bool true, .int .i64 0, .bool false, .bool false, .int .i64 0, .slice ARY 2 cRY] 36 (0, 0))) := ⟨by rw [hw]; exact heap_new _ _⟩
  have HNHY := Aside0.mk (show w14n.heap.size ≠ g by have := I14n.out.lk.lt; omega)
  rw [← hw]
  have I15 := Aside0.mk (I14n.out.below hb)
  have B15 := bonly B14n hO HGG.out
  have HZ15 := Aside0.mk (heap_only hO (HNHZ.out) HZ14n.out)
  have RZ15 := Aside0.mk (R_onlyS RZ14n.out hO (fun k hk => Nat.ne_of_gt (Nat.lt_of_lt_of_le HNRZ.out hk)))
  have RY15 := Aside0.mk (R_onlyS RY14n.out hO (fun k hk => Nat.ne_of_gt (Nat.lt_of_lt_of_le HNRY.out hk)))
  have EB15 := Aside0.mk (ErrC.only I14n.out hO EB14n.out)
  have EC15 := Aside0.mk (ErrC.only I14n.out hO EC14n.out)
  clear hb hO hw
  go_wp2_with fail
  refine (ITick_calls w15 I15.out (by decide)).mono ?_
  rintro e w16 ⟨rfl, hI, hO⟩
  have I16 : Aside0 (IK w16 x g 2 2 2 s2) := ⟨hI⟩
  have B16 := bonly B15 hO HGG.out
  have HZ16 := Aside0.mk (heap_only hO (HNHZ.out) HZ15.out)
  have HY16 := Aside0.mk (heap_only hO (HNHY.out) HY15.out)
  have RZ16 := Aside0.mk (R_onlyS RZ15.out hO (fun k hk => Nat.ne_of_gt (Nat.lt_of_lt_of_le HNRZ.out hk)))
  have RY16 := Aside0.mk (R_onlyS RY15.out hO (fun k hk => Nat.ne_of_gt (Nat.lt_of_lt_of_le HNRY.out hk)))
  have EB16 := Aside0.mk (ErrC.only I15.out hO EB15.out)
  have EC16 := Aside0.mk (ErrC.only I15.out hO EC15.out)
  clear hI hO
  go_wp2_with fail
  refine (ITick_calls w16 I16.out (by decide)).mono ?_
  rintro e w17 ⟨rfl, hI, hO⟩
  have I17 : Aside0 (IK w17 x g 2 3 2 s2) := ⟨hI⟩
  have B17 := bonly B16 hO HGG.out
  have HZ17 := Aside0.mk (heap_only hO (HNHZ.out) HZ16.out)
  have HY17 := Aside0.mk (heap_only hO (HNHY.out) HY16.out)
  have RZ17 := Aside0.mk (R_onlyS RZ16.out hO (fun k hk => Nat.ne_of_gt (Nat.lt_of_lt_of_le HNRZ.out hk)))
  have RY17 := Aside0.mk (R_onlyS RY16.out hO (fun k hk => Nat.ne_of_gt (Nat.lt_of_lt_of_le HNRY.out hk)))
  have EB17 := Aside0.mk (ErrC.only I16.out hO EB16.out)
  have EC17 := Aside0.mk (ErrC.only I16.out hO EC16.out)
  clear hI hO
  go_wp2_with fail
  refine (Now_calls w17 I17.out.obj I17.out.lk (by decide) I17.out.hn).mono ?_
  rintro e w17n ⟨v17n, rfl, hR, hb⟩
  rw [now3.1, now3.2] at *
  obtain ⟨ARW, cRW, rfl, hcRW, -⟩ := Kd.R_reads hR
  have RW17n := Aside0.mk (R_fromS hR)
  have HNRW := Aside0.mk (show g < w17.heap.size from I17.out.lk.lt)
  have hO : Only g w17 w17n := Only.of_below g hb
  have I17n := Aside0.mk (I17.out.below hb)
  have B17n := bonly B17 hO HGG.out
  have HZ17n := Aside0.mk (heap_only hO (HNHZ.out) HZ17.out)
  have HY17n := Aside0.mk (heap_only hO (HNHY.out) HY17.out)
  have RZ17n := Aside0.mk (R_onlyS RZ17.out hO (fun k hk => Nat.ne_of_gt (Nat.lt_of_lt_of_le HNRZ.out hk)))
  have RY17n := Aside0.mk (R_onlyS RY17.out hO (fun k hk => Nat.ne_of_gt (Nat.lt_of_lt_of_le HNRY.out hk)))
  have EB17n := Aside0.mk (ErrC.only I17.out hO EB17.out)
  have EC17n := Aside0.mk (ErrC.only I17.out hO EC17.out)
  clear hR hb hO hcRW
  unfold valZ
  go_upto_region 13 with fail
  obtain ⟨w18, hw⟩ : ∃ y, y = w17n.alloc (.cells #[.bool false, .bool false, .bool false, .bool false, .bool false, .bool false, .bool true, .int .i64 1, .bool false, .bool false, .int .i64 0, .slice ARW 2 cRW] 36) := ⟨_, rfl⟩
  have hb : Below w17n.heap.size w17n w18 := by rw [hw]; exact below_alloc (Below.refl _ _) _
  have hO : Only g w17n w18 := Only.of_below g hb
  have HW18 : Aside0 (w18.heap[w17n.heap.size]? = some (.cells #[.bool false, .bool false, .bool false, .bool false, .bool false, .bool false, .bool true, .int .i64 1, .bool false, .bool false, .int .i64 0, .slice ARW 2 cRW] 36 (0, 0))) := ⟨by rw [hw]; exact heap_new _ _⟩
  have HNHW := Aside0.mk (show w17n.heap.size ≠ g by have := I17n.out.lk.lt; omega)
  rw [← hw]
  have I18 := Aside0.mk (I17n.out.below hb)
  have B18 := bonly B17n hO HGG.out
  have HZ18 := Aside0.mk (heap_only hO (HNHZ.out) HZ17n.out)
  have HY18 := Aside0.mk (heap_only hO (HNHY.out) HY17n.out)
  have RZ18 := Aside0.mk (R_onlyS RZ17n.out hO (fun k hk => Nat.ne_of_gt (Nat.lt_of_lt_of_le HNRZ.out hk)))
  have RY18 := Aside0.mk (R_onlyS RY17n.out hO (fun k hk => Nat.ne_of_gt (Nat.lt_of_lt_of_le HNRY.out hk)))
  have EB18 := Aside0.mk (ErrC.only I17n.out hO EB17n.out)
  have EC18 := Aside0.mk (ErrC.only I17n.out hO EC17n.out)
  clear hb hO hw
  obtain ⟨-, -, hCZ⟩ := Kd.R_reads' RZ18.out
  obtain ⟨-, -, hCY⟩ := Kd.R_reads' RY18.out
  obtain ⟨adz, rfl, z0, -, -, -, -⟩ := at_T48 hCZ 0 (by decide) (by decide)
  obtain ⟨ady, rfl, y0, y1, -, -, -⟩ := at_T48 hCY 1 (by decide) (by decide)
  have z11 : World.cell? w18 ⟨w1n.heap.size, 11, none⟩ = some (.slice (some adz) 2 cRZ) := cell_of_heap HZ18.out 11
  have z7 : World.cell? w18 ⟨w1n.heap.size, 7, none⟩ = some (.int .i64 1) := cell_of_heap HZ18.out 7
  have z6 : World.cell? w18 ⟨w1n.heap.size, 6, none⟩ = some (.bool true) := cell_of_heap HZ18.out 6
  have y11 : World.cell? w18 ⟨w14n.heap.size, 11, none⟩ = some (.slice (some ady) 2 cRY) := cell_of_heap HY18.out 11
  have y7 : World.cell? w18 ⟨w14n.heap.size, 7, none⟩ = some (.int .i64 0) := cell_of_heap HY18.out 7
  have u7 : World.cell? w18 ⟨w17n.heap.size, 7, none⟩ = some (.int .i64 1) := cell_of_heap HW18.out 7
  have z0' : World.cell? w18 adz = some (.bool false) := by
    have e : adz.add ((0 : Int).toNat * 5) = adz := by cases adz; simp [Addr.add]
    rw [e] at z0; exact z0
  have y0' : World.cell? w18 ⟨ady.block, ady.off + 5, none⟩ = some (.bool true) := y0
  have y1' : World.cell? w18 ⟨ady.block, ady.off + 5 + 1, none⟩ = some (.int .i64 3) := y1
  clear z0 y0 y1
  go_wp2_with fail
  refine (ICode_calls v8 4 _ (HG.out.below B18) EB18.out).mono ?_
  rintro e w19 ⟨rfl, hb⟩
  have C19 := Aside0.mk (EC18.out.below ⟨hb⟩)
  have B19 := Aside0.mk (below_thenB B18.out hb B18.out.size)
  replace y11 := pw_cell_below hb y11
  replace y7 := pw_cell_below hb y7
  replace u7 := pw_cell_below hb u7
  replace y0' := pw_cell_below hb y0'
  replace y1' := pw_cell_below hb y1'
  clear hb z11 z7 z6 z0'
  go_wp2_with fail
  refine (ICode_calls v10 3 _ (HG.out.below B19) C19.out).mono ?_
  rintro e w20 ⟨rfl, hb⟩
  have B20 := Aside0.mk (below_thenB B19.out hb B19.out.size)
  replace y11 := pw_cell_below hb y11
  replace y7 := pw_cell_below hb y7
  replace u7 := pw_cell_below hb u7
  replace y0' := pw_cell_below hb y0'
  replace y1' := pw_cell_below hb y1'
  clear hb
  go_wp2_with fail
  go_ret
  exact ⟨rfl, B20.out⟩
end Go.Proofs.YtfijlaahifeimaaDoor.PE
