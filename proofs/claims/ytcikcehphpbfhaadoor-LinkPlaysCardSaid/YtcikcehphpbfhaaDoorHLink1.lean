/- link: Fresh. -/
import Derived.Test.YtcikcehphpbfhaaDoorHLink0
import Derived.Deep.RegionHeld3
namespace Go.Proofs.YtcikcehphpbfhaaDoor.PE
open Go.RowKit Go.Extern.Stop Go.Stop Go.Extern Go.Proofs.YtcikcehphpbfhaaDoorW.PrintWords Go.Proofs.YtcikcehphpbfhaaDoorW.PrintLast Go.Proofs.YtcikcehphpbfhaaDoorW.PrintMore
set_option linter.unusedVariables false
set_option linter.unusedSimpArgs false
theorem of_drew {w w1 : World} (h : Below w.drew.heap.size w.drew w1) : Below w.heap.size w w1 := ⟨h.os, h.tape, h.output, h.size, h.block⟩
set_option maxHeartbeats 4000000 in
set_option maxRecDepth 100000 in
theorem fresh_out (g : Nat) (ch : Int) (w : World) (h : ch < 0 ∨ 15 < ch) :
    Calls Tryd.prog 17 #[.pointer (some ⟨g, 0, none⟩), .int .i64 ch] w fun e w' => e = .returned (.tuple #[.slice none 0 0, .bool false]) ∧ Below w.heap.size w w' := by
  by_cases h0 : ch < 0
  · have d0 : decide (ch < 0) = true := decide_eq_true h0
    go_enter Tryd.func17, Tryd.ntmps17
    go_wp2
    go_quiet (fail)
    go_wp2
    go_ret2
    exact ⟨rfl, pw_below_drewN (Below.refl _ _) _⟩
  · have d0 : decide (ch < 0) = false := decide_eq_false h0
    have d1 : decide (15 < ch) = true := decide_eq_true (by omega)
    go_enter Tryd.func17, Tryd.ntmps17
    go_wp2
    go_quiet (fail)
    go_wp2
    go_ret2
    exact ⟨rfl, pw_below_drewN (Below.refl _ _) _⟩
set_option maxHeartbeats 4000000 in
set_option maxRecDepth 100000 in
theorem fresh_not (g : Nat) (ch : Int) (w : World) (h0 : 0 ≤ ch) (h1 : ch ≤ 15) (hh : w.cell? ⟨g, 2 + ch.toNat * 5 + 4, none⟩ = some (.bool false)) :
    Calls Tryd.prog 17 #[.pointer (some ⟨g, 0, none⟩), .int .i64 ch] w fun e w' => e = .returned (.tuple #[.slice none 0 0, .bool false]) ∧ Below w.heap.size w w' := by
  have d0 : decide (ch < 0) = false := decide_eq_false (by omega)
  have d1 : decide (15 < ch) = false := decide_eq_false (by omega)
  have hi : 0 ≤ ch ∧ ch < 16 := by omega
  go_enter Tryd.func17, Tryd.ntmps17
  go_wp2
  go_quiet (fail)
  go_wp2
  go_ret2
  exact ⟨rfl, pw_below_drewN (Below.refl _ _) _⟩
set_option maxHeartbeats 8000000 in
set_option maxRecDepth 100000 in
theorem fresh_had (g : Nat) (ch : Int) (F now c sq a : Int) (A : Option Addr) (n cap : Nat) (xs : List Int) (stale : Bool) (w : World) (hF : w.cell? ⟨g, 0, none⟩ = some (.int .i64 F)) (hnow : w.cell? ⟨g, 1, none⟩ = some (.int .i64 now))
    (h0 : 0 ≤ ch) (h1 : ch ≤ 15) (h : 0 ≤ a ∧ a ≤ now ∧ now ≤ 1000000 ∧ 0 ≤ F ∧ F ≤ 6000)
    (c0 : w.cell? ⟨g, 2 + ch.toNat * 5, none⟩ = some (.int .i64 c)) (c1 : w.cell? ⟨g, 2 + ch.toNat * 5 + 1, none⟩ = some (.int .i64 sq))
    (c2 : w.cell? ⟨g, 2 + ch.toNat * 5 + 2, none⟩ = some (.slice A n cap)) (c3 : w.cell? ⟨g, 2 + ch.toNat * 5 + 3, none⟩ = some (.int .i64 a)) (c4 : w.cell? ⟨g, 2 + ch.toNat * 5 + 4, none⟩ = some (.bool true))
    (hC : Kd.C (Kd.int .u8) w A n xs) (hn : n ≤ 100) (hs : decide (F < min (now - a) (F + 1)) = stale) (ys : List Int) (hy : ys = if stale then [] else xs) :
    Calls Tryd.prog 17 #[.pointer (some ⟨g, 0, none⟩), .int .i64 ch] w fun e w' => ∃ v, e = .returned (.tuple #[v, .bool (!stale)]) ∧ Kd.R (Kd.int .u8) 5 w' w.heap.size (fun _ => True) v ys ∧ Below w.heap.size w w' := by
  have d0 : decide (ch < 0) = false := decide_eq_false (by omega)
  have d1 : decide (15 < ch) = false := decide_eq_false (by omega)
  have hi : 0 ≤ ch ∧ ch < 16 := by omega
  have H := Aside0.mk hC
  have HN := Aside0.mk hn
  have HY := Aside0.mk hy
  clear hy
  have E := Aside0.mk h
  clear hC hn h
  go_enter Tryd.func17, Tryd.ntmps17
  go_upto_region 1 with fail
  go_cut [36] (fun v W => v = .bool stale ∧ Aside0 (Below w.heap.size w W))
  case first =>
    go_region_held3 (fun W => W.cell? ⟨g, 0, none⟩ = some (.int .i64 F) ∧ W.cell? ⟨g, 2 + ch.toNat * 5, none⟩ = some (.int .i64 c) ∧ W.cell? ⟨g, 2 + ch.toNat * 5 + 1, none⟩ = some (.int .i64 sq) ∧ W.cell? ⟨g, 2 + ch.toNat * 5 + 2, none⟩ = some (.slice A n cap) ∧ W.cell? ⟨g, 2 + ch.toNat * 5 + 3, none⟩ = some (.int .i64 a) ∧ W.cell? ⟨g, 2 + ch.toNat * 5 + 4, none⟩ = some (.bool true)) (first | exact ⟨hF, c0, c1, c2, c3, c4⟩ | exact ⟨bcellA B3 hF, bcellA B3 c0, bcellA B3 c1, bcellA B3 c2, bcellA B3 c3, bcellA B3 c4⟩) (first | (go_at_call 25; refine (age_calls g F now c sq a (.slice A n cap) true w.drew hF hnow E.out).mono ?_; rintro e w3 ⟨rfl, hb3⟩; have B3 := Aside0.mk (of_drew hb3); clear hb3))
    go_wp2_with fail
    go_meet
    case rel => exact ⟨rfl, B3⟩
  case rest =>
    obtain ⟨hv, HB⟩ := hcut
    subst hv
    obtain ⟨w3, rfl⟩ : ∃ x : World, x = wc := ⟨_, rfl⟩
    have k2 := bcellA HB c2
    clear c0 c1 c2 c3 c4 hF hnow hs
    cases stale with
    | true =>
      go_wp2
      go_ret2
      exact ⟨_, rfl, (show ys = [] from HY.out) ▸ Kd.R_nil _ _ _ _ _, HB.out⟩
    | false =>
      go_wp2_with fail
      refine (clone_calls A n cap xs _ (Kd.C_below H.out HB.out) (by have := HN.out; omega)).mono ?_
      rintro e w4 ⟨v, rfl, hR, hb⟩
      have HR := Aside0.mk hR
      have HB4 := Aside0.mk hb
      clear hR hb
      go_wp2
      go_ret2
      exact ⟨_, rfl, (show ys = xs from HY.out) ▸ Kd.R_lower HR.out HB.out.size, (btrans HB HB4).out⟩
end Go.Proofs.YtcikcehphpbfhaaDoor.PE
