/- frame: Seal, of the code and of the reference. -/
import Derived.Test.YtnigocoanlaiiaaDoorHCrc
import Derived.Test.YtnigocoanlaiiaaDoorHBase
namespace Go.Proofs.YtnigocoanlaiiaaDoor.PE
open Go.RowKit Go.Extern.Stop Go.Stop Go.Extern Go.Proofs.YtnigocoanlaiiaaDoorW.PrintWords Go.Proofs.YtnigocoanlaiiaaDoorW.PrintLast Go.Proofs.YtnigocoanlaiiaaDoorW.PrintMore
set_option linter.unusedVariables false
set_option linter.unusedSimpArgs false
/-- Bytes, and their sum behind them. -/
def sealL (l : List Int) : List Int := l ++ [num (sumL l) / 256, num (sumL l) % 256]
open PFrameCodes in
theorem RSeal_calls (A : Option Addr) (c : Nat) (l : List Int) (w : World) (hC : Kd.C (Kd.int .u8) w A l.length l) (hc : l.length ≤ c) (hl : l.length ≤ 1000000) :
    Calls Tryd.prog 16 #[.slice A l.length c] w fun e w' => ∃ v, e = .returned v ∧ Kd.R (Kd.int .u8) 5 w' w.heap.size (fun _ => True) v (sealL l) ∧ Below w.heap.size w w' := by
  refine crossbuckref02_Seal.calls (l.length + 11) A c l (sealL l) w hC hc ?_
  unfold crossbuckref02_Seal.f
  rw [rsum_f l hl]
  have hn := num_lt (sumL l)
  generalize hN : num (sumL l) = N at hn ⊢
  simp only [Option.bind_some, List.length_nil, List.nil_append]
  rw [if_pos (by omega), if_pos (by simp; omega), wrap16]
  have e1 : (N.tdiv 256 % 65536) % 256 = N / 256 := by
    rw [Int.tdiv_eq_ediv_of_nonneg hn.1]; omega
  have e2 : (N.tmod 256) % 256 = N % 256 := by
    rw [Int.tmod_eq_emod_of_nonneg hn.1]; omega
  rw [e1, e2]
  unfold sealL
  rw [hN]
theorem make_cap (l c : Nat) (hlc : l ≤ c) (hc : c ≤ 1000000) (W : World) : (Instr.makeSlice 22 (.int .i64 (l : Int)) (.int .i64 (c : Int))).run Tryd.prog W = .ok (.slice (some ⟨W.heap.size, 0, none⟩) l c) (W.alloc (.cells (madeCells #[.int .u8 0] c) 5)) := by
  obtain ⟨i, hi, hz, hs, hb⟩ := info_parts info5
  have h := run_make (P := Tryd.prog) W 22 5 i (.int .u8 0) Tryd.underlying22 hi hz .i64 .i64 l c (by omega) (by omega) (by rw [hb]; omega) (by omega)
  rw [hs] at h
  simpa [Value.cells] using h
theorem R_cap (W : World) (c : Nat) (hc : c ≤ 1000000) : Kd.R (Kd.int .u8) 5 (W.alloc (.cells (madeCells #[.int .u8 0] c) 5)) W.heap.size (fun _ => True) (.slice (some ⟨W.heap.size, 0, none⟩) 0 c) ([] : List Int) :=
  ⟨fun _ _ => trivial, [], World.ownsRow_made W _ c (Nat.le_refl _) (by simp [maxLen]; omega) (by show (madeCells #[.int .u8 0] c).size = c * 1; rw [size_madeCells]; omega), Reps.none _ _⟩
theorem C_two (w : World) (x y : Int) : Kd.C (Kd.int .u8) (w.alloc (.cells #[.int .u8 x, .int .u8 y] 5)) (some ⟨w.heap.size, 0, none⟩) 2 [x, y] := by
  refine ⟨rfl, by decide, fun _ => ⟨⟨w.heap.size, 0, none⟩, rfl, fun j p hj => ?_⟩⟩
  match j with
  | 0 =>
    have hp : x = p := by simpa using hj
    subst hp
    refine ⟨[.int .u8 x], rfl, rfl, fun i u hu => ?_⟩
    match i with
    | 0 =>
      have hu : Value.int .u8 x = u := by simpa using hu
      subst hu
      exact cell_new w #[.int .u8 x, .int .u8 y] 5 0
    | i + 1 => simp at hu
  | 1 =>
    have hp : y = p := by simpa using hj
    subst hp
    refine ⟨[.int .u8 y], rfl, rfl, fun i u hu => ?_⟩
    match i with
    | 0 =>
      have hu : Value.int .u8 y = u := by simpa using hu
      subst hu
      exact cell_new w #[.int .u8 x, .int .u8 y] 5 1
    | i + 1 => simp at hu
  | j + 2 => simp at hj
set_option maxHeartbeats 4000000 in
set_option maxRecDepth 100000 in
open PFrameCodes in
theorem Seal_calls (A : Option Addr) (c : Nat) (l : List Int) (w : World) (hC : Kd.C (Kd.int .u8) w A l.length l) (hc : l.length ≤ c) (hl : l.length ≤ 900000) :
    Calls Tryd.prog 19 #[.slice A l.length c] w fun e w' => ∃ v, e = .returned v ∧ Kd.R (Kd.int .u8) 5 w' w.heap.size (fun _ => True) v (sealL l) ∧ Below w.heap.size w w' := by
  have H := Aside0.mk hC
  have HN := Aside0.mk hl
  have HCC := Aside0.mk hc
  have HS := Aside0.mk (psum_f l (by omega))
  have hn := Aside0.mk (num_lt (sumL l))
  have hw2 : wrap64 ((l.length : Int) + 2) = l.length + 2 := by unfold wrap64; omega
  have HW2 := Aside0.mk hw2
  clear hC hl hc hw2
  generalize hNN : num (sumL l) = N at HS hn
  have HNN := Aside0.mk hNN
  clear hNN
  go_enter Tryd.func19, Tryd.ntmps19
  go_wp2_with fail
  refine (crc_Sum.calls (l.length + 11) A c l N w H.out HCC.out HS.out).mono ?_
  rintro e w1 ⟨rfl, hd⟩
  have B1 := Aside0.mk hd.below
  clear hd
  have hw2 := HW2.out
  have hmk : ∀ W : World, (Instr.makeSlice 22 (.int .i64 0) (.int .i64 ((l.length : Int) + 2))).run Tryd.prog W = .ok (.slice (some ⟨W.heap.size, 0, none⟩) 0 (l.length + 2)) (W.alloc (.cells (madeCells #[.int .u8 0] (l.length + 2)) 5)) := fun W => make_cap 0 (l.length + 2) (by omega) (by have := HN.out; omega) W
  have info5 := info5
  go_wp2_with ((with_reducible refine gate_builtin (b := .append) (xs := #[.tmp 11, .tmp 12]) rfl ?_); at_builtin; refine Kd.R_append_rows (Kd.int .u8) (w0 := w1) w1.heap.size rfl (.tmp 11) (.tmp 12) 22 5 (.int .u8 0) 1 rfl Tryd.underlying22 info5 rfl (by decide) (by omega) (.slice (some ⟨w1.heap.size, 0, none⟩) 0 (l.length + 2)) [] l A l.length c (fun _ => True) (fun _ => False) rfl rfl ?aO ?aR (fun _ _ h => h) (fun _ h => h.elim) (fun _ _ => trivial) ?aB ?aS ?aL ?_)
  case aO => exact R_cap w1 (l.length + 2) (by have := HN.out; omega)
  case aR => exact Kd.C_alloc (Kd.C_below H.out B1.out) _
  case aB => exact below_alloc (Below.refl _ _) _
  try case aS => simp
  case aL => have := HN.out; simp; omega
  intro v2 w2 ho hb hg hat
  obtain ⟨A2, c2, rfl, -, -⟩ := Kd.R_reads ho
  have R2 : Aside0 (Kd.R (Kd.int .u8) 5 w2 w1.heap.size (fun _ => True) (.slice A2 l.length c2) l) := ⟨by simpa using ho⟩
  have B2 := Aside0.mk hb
  clear ho hb hg hat hmk
  go_wp2_with ((with_reducible refine gate_builtin (b := .append) (xs := #[.tmp 14, .tmp 20]) rfl ?_); at_builtin; refine Kd.R_append_rows (Kd.int .u8) (w0 := w1) w1.heap.size rfl (.tmp 14) (.tmp 20) 22 5 (.int .u8 0) 1 rfl Tryd.underlying22 info5 rfl (by decide) (by omega) (.slice A2 l.length c2) l [N / 256 % 256, N % 256] (some ⟨w2.heap.size, 0, none⟩) 2 2 (fun _ => True) (fun _ => False) rfl rfl ?bO ?bR (fun _ _ h => h) (fun _ h => h.elim) (fun _ _ => trivial) ?bB ?bS ?bL ?_)
  case bO => exact Kd.R_alloc R2.out _
  case bR => exact C_two w2 _ _
  case bB => exact below_alloc B2.out _
  try case bS => have := B2.out.size; simp; omega
  case bL => have := HN.out; omega
  intro v3 w3 ho hb hg hat
  have e2 : N / 256 % 256 = N / 256 := by have := hn.out; omega
  rw [e2] at ho
  obtain ⟨A3, c3, rfl, -, -⟩ := Kd.R_reads ho
  have R3 := Aside0.mk ho
  have B3 := Aside0.mk (below_thenB B1.out hb B1.out.size)
  clear ho hb hg hat e2
  go_wp2_with fail
  go_ret
  have hs : sealL l = l ++ [N / 256, N % 256] := by unfold sealL; rw [HNN.out]
  rw [hs]
  exact ⟨_, rfl, Kd.R_lower R3.out B1.out.size, B3.out⟩
end Go.Proofs.YtnigocoanlaiiaaDoor.PE
