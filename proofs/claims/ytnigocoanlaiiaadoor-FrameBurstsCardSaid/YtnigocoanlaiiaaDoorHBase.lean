/- frame: what the walks share: one block changed, errors or none, slices.Clone. -/
import Derived.Test.YtnigocoanlaiiaaDoorHErr
import Derived.BigQuiet
import Derived.Lib.SliceRun
namespace Go.Proofs.YtnigocoanlaiiaaDoor.PE
open Go.RowKit Go.Extern.Stop Go.Stop Go.Extern Go.Proofs.YtnigocoanlaiiaaDoorW.PrintWords Go.Proofs.YtnigocoanlaiiaaDoorW.PrintLast Go.Proofs.YtnigocoanlaiiaaDoorW.PrintMore
set_option linter.unusedVariables false
set_option linter.unusedSimpArgs false
theorem info5 : Option.map (fun i => (i.zero, i.size, i.bytes)) (Tryd.prog.info? 5) = some (some (.int .u8 0), 1, 1) := by kernel_rfl
theorem R_empty (w : World) : Kd.R (Kd.int .u8) 5 (w.alloc (.cells #[] 5)) w.heap.size (fun _ => True) (.slice (some ⟨w.heap.size, 0, none⟩) 0 0) ([] : List Int) :=
  ⟨fun _ _ => trivial, OwnRow.lit (ps := []) (inner := []) w w.heap.size (Reps.none _ _) (Nat.le_refl _) (by simp)⟩
set_option maxHeartbeats 4000000 in
theorem clone_calls (A : Option Addr) (n c : Nat) (xs : List Int) (w : World) (hC : Kd.C (Kd.int .u8) w A n xs) (hn : n ≤ 140737488355328) :
    Calls Tryd.prog 25 #[.slice A n c] w fun e w' => ∃ v, e = .returned v ∧ Kd.R (Kd.int .u8) 5 w' w.heap.size (fun _ => True) v xs ∧ Below w.heap.size w w' := by
  have q : ∀ (w : World) (a : Option Addr) (n c n' c' : Nat), (Go.binOp .eql 22 (.slice a n c) (.slice none n' c')).run Tryd.prog w = .ok (.bool a.isNone) w := fun w a n c n' c' => Lib.run_eql_slice_nil w _ _ a n c n' c' Tryd.underlying22
  have info5 := info5
  cases A with
  | none =>
    have h0 : n = 0 := by
      rcases Nat.eq_zero_or_pos n with h | h
      · exact h
      · obtain ⟨ad, h, _⟩ := hC.2.2 h; exact absurd h (by simp)
    have hx : xs = [] := List.eq_nil_of_length_eq_zero (hC.1.trans h0)
    subst hx
    clear hC
    go_enter Tryd.func25, Tryd.ntmps25
    go_wp2
    go_ret
    exact ⟨_, rfl, Kd.R_nil _ _ _ _ _, Below.refl _ _⟩
  | some A =>
    have hl : xs.length = n := hC.1
    have H := Aside0.mk hC
    clear hC
    go_enter Tryd.func25, Tryd.ntmps25
    go_wp2_with ((with_reducible refine gate_builtin (b := .append) (xs := #[.tmp 5, .tmp 6]) rfl ?_); at_builtin; refine Kd.R_append_rows (Kd.int .u8) (w0 := w) w.heap.size rfl (.tmp 5) (.tmp 6) 22 5 (.int .u8 0) 1 rfl Tryd.underlying22 info5 rfl (by decide) (by omega) (.slice (some ⟨w.heap.size, 0, none⟩) 0 0) [] xs (some A) n c (fun _ => True) (fun _ => False) rfl rfl ?aO ?aR (fun _ _ h => h) (fun _ h => h.elim) (fun _ _ => trivial) ?aB ?aS ?aL ?_)
    case aO => exact R_empty w
    case aR => exact Kd.C_alloc H.out _
    case aB => exact below_alloc (Below.refl _ _) _
    case aS => simp
    case aL => simp; omega
    intro v w1 ho hb hg hat
    have HO := Aside0.mk ho
    have HB := Aside0.mk hb
    obtain ⟨A', c', rfl, _, _⟩ := Kd.R_reads ho
    clear ho hb hg hat
    go_wp2
    go_ret
    exact ⟨_, rfl, by simpa using HO.out, HB.out⟩
theorem of_drew {w w1 : World} (h : Below w.drew.heap.size w.drew w1) : Below w.heap.size w w1 := ⟨h.os, h.tape, h.output, h.size, h.block⟩
theorem R_but {d : Kd Int} {e : Nat} {w w1 : World} {base g : Nat} {v : Value} {xs : List Int} (h : Kd.R d e w base (fun _ => True) v xs) (hg : g < base) (hk : ∀ k, k ≠ g → w1.heap[k]? = w.heap[k]?) : Kd.R d e w1 base (fun _ => True) v xs :=
  Kd.R_mono (Kd.R_step (ok := fun k => base ≤ k) (Kd.R_mono (Kd.R_bound h) (fun _ hk => hk.2.1)) (fun k ho _ => hk k (by omega))) (fun _ _ => trivial)
/-- Only block g and new ones changed. -/
structure Only (g : Nat) (w w' : World) : Prop where
  os : w'.os = w.os
  tape : w'.tape = w.tape
  output : w'.output = w.output
  size : w.heap.size ≤ w'.heap.size
  block : ∀ k, k < w.heap.size → k ≠ g → w'.heap[k]? = w.heap[k]?
theorem Only.of_below {w w' : World} (g : Nat) (h : Below w.heap.size w w') : Only g w w' := ⟨h.os, h.tape, h.output, h.size, fun k hk _ => h.block k hk⟩
theorem Only.below {g B : Nat} {w w' : World} (h : Only g w w') (hB : B ≤ g) (hs : B ≤ w.heap.size) : Below B w w' := ⟨h.os, h.tape, h.output, h.size, fun k hk => h.block k (by omega) (by omega)⟩
theorem Only.trans {g : Nat} {w w1 w2 : World} (h : Only g w w1) (k : Only g w1 w2) : Only g w w2 := ⟨k.os.trans h.os, k.tape.trans h.tape, k.output.trans h.output, Nat.le_trans h.size k.size, fun i hi hg => (k.block i (Nat.lt_of_lt_of_le hi h.size) hg).trans (h.block i hi hg)⟩
theorem below_thenB {B B' : Nat} {w w1 w2 : World} (h : Below B w w1) (k : Below B' w1 w2) (hB : B ≤ B') : Below B w w2 := ⟨k.os.trans h.os, k.tape.trans h.tape, k.output.trans h.output, Nat.le_trans h.size k.size, fun i hi => (k.block i (by omega)).trans (h.block i hi)⟩
theorem bonly {g : Nat} {w0 w w' : World} (h : Aside0 (Below w0.heap.size w0 w)) (k : Only g w w') (hg : w0.heap.size ≤ g) : Aside0 (Below w0.heap.size w0 w') := ⟨below_thenB h.out (k.below hg h.out.size) (Nat.le_refl _)⟩
theorem cell_same_blk {W W' : World} {g : Nat} (h : W'.heap[g]? = W.heap[g]?) (k : Nat) : W'.cell? ⟨g, k, none⟩ = W.cell? ⟨g, k, none⟩ := by
  unfold World.cell?; simp only [h]
theorem cell_set_ne {W : World} {g i j : Nat} (v : Value) (h : i ≠ j) : (W.setCell ⟨g, i, none⟩ v).cell? ⟨g, j, none⟩ = W.cell? ⟨g, j, none⟩ := World.cell?_setCell_other _ _ _ _ (by intro e; injection e; contradiction)
theorem cell_set_eq {W : World} {g i : Nat} {cs : Array Value} {t : TypeId} {u : Value} (v : Value) (hb : W.heap[g]? = some (.cells cs t (0, 0))) (h : W.cell? ⟨g, i, none⟩ = some u) : (W.setCell ⟨g, i, none⟩ v).cell? ⟨g, i, none⟩ = some v := by
  rw [blk_cell hb] at h
  have hi := (Array.getElem?_eq_some_iff.1 h).1
  rw [blk_cell (blk_set hb i v), Array.getElem?_setIfInBounds_self_of_lt hi]
theorem set_only (w : World) (g i : Nat) (v : Value) : Only g w (w.setCell ⟨g, i, none⟩ v) :=
  have b := (Below.refl 0 w).setCell (p := ⟨g, i, none⟩) (Nat.zero_le _) v
  ⟨b.os, b.tape, b.output, b.size, fun k _ hk => Below.heap_setCell _ _ _ k hk⟩
theorem drew_only (w : World) (g : Nat) : Only g w w.drew := Only.of_below g (below_drew (Below.refl _ _))
/-- The bytes of the place. -/
def sPlace : ByteArray := { data := #[102, 114, 97, 109, 101] }
/-- An error of the package, or none (number 0). -/
def ErrV (W : World) (c : Int) (v : Value) : Prop := (c = 0 ∧ v = .nilIface) ∨ (c ≠ 0 ∧ ErrP W c [sPlace] v)
theorem ErrV.below {W W' : World} (h : Aside0 (Below W.heap.size W W')) {c : Int} {v : Value} (e : ErrV W c v) : ErrV W' c v := e.imp id (fun e => ⟨e.1, e.2.below h⟩)
theorem Code_calls (v : Value) (c : Int) (w : World) (hg : Gerr w) (hv : ErrV w c v) :
    Calls Tryd.prog 14 #[v] w fun e w' => e = .returned (.int .i64 c) ∧ Below w.heap.size w w' := by
  rcases hv with ⟨rfl, rfl⟩ | ⟨_, hv⟩
  · refine (code_nil w).mono ?_
    rintro e w' ⟨rfl, rfl⟩
    exact ⟨rfl, Below.refl _ _⟩
  · exact code_err _ v c w hg hv
theorem C_one (w : World) (x : Int) : Kd.C (Kd.int .u8) (w.alloc (.cells #[.int .u8 x] 5)) (some ⟨w.heap.size, 0, none⟩) 1 [x] := by
  refine ⟨rfl, by decide, fun _ => ⟨⟨w.heap.size, 0, none⟩, rfl, fun j p hj => ?_⟩⟩
  cases j with
  | succ j => simp at hj
  | zero =>
    have hp : x = p := by simpa using hj
    subst hp
    refine ⟨[.int .u8 x], rfl, rfl, fun i u hu => ?_⟩
    cases i with
    | succ i => simp at hu
    | zero =>
      have hu : Value.int .u8 x = u := by simpa using hu
      subst hu
      exact cell_new w #[.int .u8 x] 5 0
theorem heap_only {g k : Nat} {w w' : World} {o : Obj} (hO : Only g w w') (hk : k ≠ g) (h : w.heap[k]? = some o) : w'.heap[k]? = some o := (hO.block k (heap_lt h) hk).trans h
theorem R_only {d : Kd Int} {e g base : Nat} {w w' : World} {ok : Nat → Prop} {v : Value} {xs : List Int} (h : Kd.R d e w base ok v xs) (hO : Only g w w') (hne : ∀ k, ok k → k ≠ g) : Kd.R d e w' base ok v xs :=
  Kd.R_step h (fun k ho hl => hO.block k hl (hne k ho))
theorem R_from {d : Kd Int} {e base : Nat} {w : World} {v : Value} {xs : List Int} (h : Kd.R d e w base (fun _ => True) v xs) : Kd.R d e w base (fun k => base ≤ k) v xs :=
  Kd.R_mono (Kd.R_bound h) (fun _ hk => hk.2.1)
theorem ErrV.nil {W : World} {v : Value} (h : ErrV W 0 v) : v = .nilIface := by
  rcases h with ⟨_, h⟩ | ⟨h, _⟩
  · exact h
  · exact absurd rfl h
theorem ErrV.err {W : World} {c : Int} {v : Value} (h : ErrV W c v) (hc : c ≠ 0) : ErrP W c [sPlace] v := by
  rcases h with ⟨h, _⟩ | ⟨_, h⟩
  · exact absurd h hc
  · exact h
end Go.Proofs.YtnigocoanlaiiaaDoor.PE
