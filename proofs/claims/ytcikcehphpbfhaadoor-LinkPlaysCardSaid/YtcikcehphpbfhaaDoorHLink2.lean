/- link: At. -/
import Derived.Test.YtcikcehphpbfhaaDoorHLink1
namespace Go.Proofs.YtcikcehphpbfhaaDoor.PE
open Go.RowKit Go.Extern.Stop Go.Stop Go.Extern Go.Proofs.YtcikcehphpbfhaaDoorW.PrintWords Go.Proofs.YtcikcehphpbfhaaDoorW.PrintLast Go.Proofs.YtcikcehphpbfhaaDoorW.PrintMore
set_option linter.unusedVariables false
set_option linter.unusedSimpArgs false
theorem R_but {d : Kd Int} {e : Nat} {w w1 : World} {base g : Nat} {v : Value} {xs : List Int} (h : Kd.R d e w base (fun _ => True) v xs) (hg : g < base) (hk : ∀ k, k ≠ g → w1.heap[k]? = w.heap[k]?) : Kd.R d e w1 base (fun _ => True) v xs :=
  Kd.R_mono (Kd.R_step (ok := fun k => base ≤ k) (Kd.R_mono (Kd.R_bound h) (fun _ hk => hk.2.1)) (fun k ho _ => hk k (by omega))) (fun _ _ => trivial)
def set4 (w : World) (b : Nat) (a0 a1 a2 a3 : Value) : World := (((w.setCell ⟨b, 0, none⟩ a0).setCell ⟨b, 1, none⟩ a1).setCell ⟨b, 2, none⟩ a2).setCell ⟨b, 3, none⟩ a3
theorem set4_but (w : World) (b : Nat) (a0 a1 a2 a3 : Value) : ∀ k, k ≠ b → (set4 w b a0 a1 a2 a3).heap[k]? = w.heap[k]? := fun k hk => by
  unfold set4
  rw [Below.heap_setCell _ _ _ k hk, Below.heap_setCell _ _ _ k hk, Below.heap_setCell _ _ _ k hk, Below.heap_setCell _ _ _ k hk]
theorem set4_heap {w : World} {b t : Nat} {c0 c1 c2 c3 : Value} (a0 a1 a2 a3 : Value) (h : w.heap[b]? = some (.cells #[c0, c1, c2, c3] t (0, 0))) : (set4 w b a0 a1 a2 a3).heap[b]? = some (.cells #[a0, a1, a2, a3] t (0, 0)) := by
  have := blk_set (blk_set (blk_set (blk_set h 0 a0) 1 a1) 2 a2) 3 a3
  simpa [set4] using this
theorem set4_below {B : Nat} {w w1 : World} (h : Below B w w1) {b : Nat} (hb : B ≤ b) (a0 a1 a2 a3 : Value) : Below B w (set4 w1 b a0 a1 a2 a3) :=
  (((h.setCell hb a0).setCell hb a1).setCell hb a2).setCell hb a3
theorem set4_far {w : World} {b b' k : Nat} {v : Value} (a0 a1 a2 a3 : Value) (hne : b ≠ b') (h : w.cell? ⟨b', k, none⟩ = some v) : (set4 w b a0 a1 a2 a3).cell? ⟨b', k, none⟩ = some v := by
  unfold set4
  rw [World.cell?_setCell_far _ _ _ _ hne, World.cell?_setCell_far _ _ _ _ hne, World.cell?_setCell_far _ _ _ _ hne, World.cell?_setCell_far _ _ _ _ hne]; exact h
set_option maxHeartbeats 4000000 in
set_option maxRecDepth 100000 in
theorem at_not (g : Nat) (ch : Int) (w : World) (hh : (0 ≤ ch ∧ ch ≤ 15) → w.cell? ⟨g, 2 + ch.toNat * 5 + 4, none⟩ = some (.bool false)) :
    Calls Tryd.prog 20 #[.pointer (some ⟨g, 0, none⟩), .int .i64 ch] w fun e w' => e = .returned (.agg #[.bool false, .int .i64 0, .int .i64 0, .slice none 0 0]) ∧ Below w.heap.size w w' := by
  have B : Aside0 (Below w.heap.size w (w.alloc (.cells #[.bool false, .int .i64 0, .int .i64 0, .slice none 0 0] 43))) := balloc ⟨Below.refl _ _⟩ _
  by_cases h0 : ch < 0
  · have d0 : decide (ch < 0) = true := decide_eq_true h0
    clear hh
    go_enter Tryd.func20, Tryd.ntmps20
    go_wp2_with fail
    exact bodyPost_ret (v := .agg #[.bool false, .int .i64 0, .int .i64 0, .slice none 0 0]) (by simp [results, Tryd.results20, go_sem]) rfl ⟨rfl, B.out⟩
  · by_cases h1 : 15 < ch
    · have d0 : decide (ch < 0) = false := decide_eq_false h0
      have d1 : decide (15 < ch) = true := decide_eq_true h1
      clear hh
      go_enter Tryd.func20, Tryd.ntmps20
      go_wp2_with fail
      exact bodyPost_ret (v := .agg #[.bool false, .int .i64 0, .int .i64 0, .slice none 0 0]) (by simp [results, Tryd.results20, go_sem]) rfl ⟨rfl, B.out⟩
    · have d0 : decide (ch < 0) = false := decide_eq_false h0
      have d1 : decide (15 < ch) = false := decide_eq_false h1
      have hi : 0 ≤ ch ∧ ch < 16 := by omega
      have k4 := bcellA B (hh (by omega))
      clear hh
      go_enter Tryd.func20, Tryd.ntmps20
      go_wp2_with fail
      exact bodyPost_ret (v := .agg #[.bool false, .int .i64 0, .int .i64 0, .slice none 0 0]) (by simp [results, Tryd.results20, go_sem]) rfl ⟨rfl, B.out⟩
set_option maxHeartbeats 8000000 in
set_option maxRecDepth 100000 in
theorem at_had (g : Nat) (ch : Int) (F now c sq a : Int) (A : Option Addr) (n cap : Nat) (xs : List Int) (stale : Bool) (w : World) (hF : w.cell? ⟨g, 0, none⟩ = some (.int .i64 F)) (hnow : w.cell? ⟨g, 1, none⟩ = some (.int .i64 now))
    (h0 : 0 ≤ ch) (h1 : ch ≤ 15) (h : 0 ≤ a ∧ a ≤ now ∧ now ≤ 1000000 ∧ 0 ≤ F ∧ F ≤ 6000)
    (c0 : w.cell? ⟨g, 2 + ch.toNat * 5, none⟩ = some (.int .i64 c)) (c1 : w.cell? ⟨g, 2 + ch.toNat * 5 + 1, none⟩ = some (.int .i64 sq))
    (c2 : w.cell? ⟨g, 2 + ch.toNat * 5 + 2, none⟩ = some (.slice A n cap)) (c3 : w.cell? ⟨g, 2 + ch.toNat * 5 + 3, none⟩ = some (.int .i64 a)) (c4 : w.cell? ⟨g, 2 + ch.toNat * 5 + 4, none⟩ = some (.bool true))
    (hC : Kd.C (Kd.int .u8) w A n xs) (hn : n ≤ 100) (hs : decide (F < min (now - a) (F + 1)) = stale) (ys : List Int) (hy : ys = if stale then [] else xs) :
    Calls Tryd.prog 20 #[.pointer (some ⟨g, 0, none⟩), .int .i64 ch] w fun e w' => ∃ v, e = .returned (.agg #[.bool true, .int .i64 sq, .int .i64 (min (now - a) (F + 1)), v]) ∧ Kd.R (Kd.int .u8) 5 w' w.heap.size (fun _ => True) v ys ∧ Below w.heap.size w w' := by
  have d0 : decide (ch < 0) = false := decide_eq_false (by omega)
  have d1 : decide (15 < ch) = false := decide_eq_false (by omega)
  have hi : 0 ≤ ch ∧ ch < 16 := by omega
  have B : Aside0 (Below w.heap.size w (w.alloc (.cells #[.bool false, .int .i64 0, .int .i64 0, .slice none 0 0] 43))) := balloc ⟨Below.refl _ _⟩ _
  have HG := heap_new w (.cells #[.bool false, .int .i64 0, .int .i64 0, .slice none 0 0] 43)
  have H := Aside0.mk (Kd.C_below hC B.out)
  replace hF := bcellA B hF
  replace hnow := bcellA B hnow
  replace c0 := bcellA B c0
  replace c1 := bcellA B c1
  replace c2 := bcellA B c2
  replace c3 := bcellA B c3
  replace c4 := bcellA B c4
  have HN := Aside0.mk hn
  have E := Aside0.mk h
  clear hC hn h
  go_enter Tryd.func20, Tryd.ntmps20
  go_upto_region 1 with fail
  obtain ⟨W1, hW⟩ : ∃ W1, W1 = (w.alloc (.cells #[.bool false, .int .i64 0, .int .i64 0, .slice none 0 0] 43)) := ⟨_, rfl⟩
  rw [← hW] at HG B H hF hnow c0 c1 c2 c3 c4 ⊢
  clear hW
  go_wp2_with fail
  have B2 : Aside0 (Below W1.heap.size W1 (W1.alloc (.cells #[.int .i64 c, .int .i64 sq, .slice A n cap, .int .i64 a, .bool true] 54))) := balloc ⟨Below.refl _ _⟩ _
  have hne : w.heap.size ≠ W1.heap.size := Nat.ne_of_lt (heap_lt HG)
  have HT := heap_new W1 (.cells #[.int .i64 c, .int .i64 sq, .slice A n cap, .int .i64 a, .bool true] 54)
  refine (fresh_had g ch F now c sq a A n cap xs stale _ (bcellA B2 hF) (bcellA B2 hnow) h0 h1 E.out (bcellA B2 c0) (bcellA B2 c1) (bcellA B2 c2) (bcellA B2 c3) (bcellA B2 c4) (Kd.C_below H.out B2.out) HN.out hs ys hy).mono ?_
  rintro e w4 ⟨v, rfl, hR, hb⟩
  have B3 : Aside0 (Below W1.heap.size W1 w4) := btrans B2 ⟨hb⟩
  have HT4 := heap_below ⟨hb⟩ HT
  have HG4 := heap_below B3 HG
  obtain ⟨A', c', rfl, _⟩ := Kd.R_reads hR
  have HR := Aside0.mk hR
  replace hF := bcellA B3 hF
  replace hnow := bcellA B3 hnow
  clear c0 c1 c2 c3 c4 hR hb HT HG hs hy B2
  have q0 : World.cell? w4 ⟨W1.heap.size, 0, none⟩ = some (.int .i64 c) := cell_of_heap HT4 0
  have q1 : World.cell? w4 ⟨W1.heap.size, 1, none⟩ = some (.int .i64 sq) := cell_of_heap HT4 1
  have q2 : World.cell? w4 ⟨W1.heap.size, 2, none⟩ = some (.slice A n cap) := cell_of_heap HT4 2
  have q3 : World.cell? w4 ⟨W1.heap.size, 3, none⟩ = some (.int .i64 a) := cell_of_heap HT4 3
  have q4 : World.cell? w4 ⟨W1.heap.size, 4, none⟩ = some (.bool true) := cell_of_heap HT4 4
  have k0 : World.cell? w4 ⟨w.heap.size, 0, none⟩ = some (.bool false) := cell_of_heap HG4 0
  have k1 : World.cell? w4 ⟨w.heap.size, 1, none⟩ = some (.int .i64 0) := cell_of_heap HG4 1
  have k2 : World.cell? w4 ⟨w.heap.size, 2, none⟩ = some (.int .i64 0) := cell_of_heap HG4 2
  have k3 : World.cell? w4 ⟨w.heap.size, 3, none⟩ = some (.slice none 0 0) := cell_of_heap HG4 3
  have f0 := frozen_of_heap HG4 0
  have f1 := frozen_of_heap HG4 1
  have f2 := frozen_of_heap HG4 2
  have f3 := frozen_of_heap HG4 3
  have HG5 := Aside0.mk HG4
  clear HG4 HT4
  go_upto_region 5 with fail
  go_region_held3 (fun W => W.cell? ⟨W1.heap.size, 0, none⟩ = some (.int .i64 c) ∧ W.cell? ⟨W1.heap.size, 1, none⟩ = some (.int .i64 sq) ∧ W.cell? ⟨W1.heap.size, 2, none⟩ = some (.slice A n cap) ∧ W.cell? ⟨W1.heap.size, 3, none⟩ = some (.int .i64 a) ∧ W.cell? ⟨W1.heap.size, 4, none⟩ = some (.bool true)) (first | exact ⟨q0, q1, q2, q3, q4⟩ | exact ⟨j0, j1, j2, j3, j4⟩ | exact ⟨set4_far _ _ _ _ hne j0, set4_far _ _ _ _ hne j1, set4_far _ _ _ _ hne j2, set4_far _ _ _ _ hne j3, set4_far _ _ _ _ hne j4⟩ | fail) (first | (go_at_call 25; refine (age_calls g F now c sq a (.slice A n cap) true w4.drew hF hnow E.out).mono ?_; rintro e w5 ⟨rfl, hb5⟩; have D5 := Aside0.mk (of_drew hb5); have HG6 := heap_below D5 HG5.out; have p0 := frozen_of_heap HG6 0; have p1 := frozen_of_heap HG6 1; have p2 := frozen_of_heap HG6 2; have p3 := frozen_of_heap HG6 3; have HG7 := Aside0.mk HG6; have j0 := bcellA D5 q0; have j1 := bcellA D5 q1; have j2 := bcellA D5 q2; have j3 := bcellA D5 q3; have j4 := bcellA D5 q4; have m0 := bcellA D5 k0; have m1 := bcellA D5 k1; have m2 := bcellA D5 k2; have m3 := bcellA D5 k3; clear hb5 HG6))
  go_wp2_with fail
  have B5 : Aside0 (Below w.heap.size w w5) := btrans (btrans B B3) D5
  have hlt : w.heap.size < W1.heap.size := by have := B.out.size; omega
  have HR6 := Kd.R_lower (base' := w.heap.size) (R_but (Kd.R_below HR.out D5.out) (g := w.heap.size) (by simp; omega) (set4_but w5 w.heap.size (.bool true) (.int .i64 sq) (.int .i64 (min (now - a) (F + 1))) (.slice A' ys.length c'))) (by simp; omega)
  have H6 := set4_heap (.bool true) (.int .i64 sq) (.int .i64 (min (now - a) (F + 1))) (.slice A' ys.length c') HG7.out
  have B6 := set4_below B5.out (Nat.le_refl _) (.bool true) (.int .i64 sq) (.int .i64 (min (now - a) (F + 1))) (.slice A' ys.length c')
  unfold set4 at HR6 H6 B6
  generalize (((w5.setCell ⟨w.heap.size, 0, none⟩ (.bool true)).setCell ⟨w.heap.size, 1, none⟩ (.int .i64 sq)).setCell ⟨w.heap.size, 2, none⟩ (.int .i64 (min (now - a) (F + 1)))).setCell ⟨w.heap.size, 3, none⟩ (.slice A' ys.length c') = w6 at HR6 H6 B6 ⊢
  have r0 : World.cell? w6 ⟨w.heap.size, 0, none⟩ = some (.bool true) := cell_of_heap H6 0
  have r1 : World.cell? w6 ⟨w.heap.size, 1, none⟩ = some (.int .i64 sq) := cell_of_heap H6 1
  have r2 : World.cell? w6 ⟨w.heap.size, 2, none⟩ = some (.int .i64 (min (now - a) (F + 1))) := cell_of_heap H6 2
  have r3 : World.cell? w6 ⟨w.heap.size, 3, none⟩ = some (.slice A' ys.length c') := cell_of_heap H6 3
  exact bodyPost_ret (v := .agg #[.bool true, .int .i64 sq, .int .i64 (min (now - a) (F + 1)), .slice A' ys.length c']) (by simp [results, Tryd.results20, go_sem, r0, r1, r2, r3]) rfl ⟨_, rfl, HR6, B6⟩
end Go.Proofs.YtcikcehphpbfhaaDoor.PE
