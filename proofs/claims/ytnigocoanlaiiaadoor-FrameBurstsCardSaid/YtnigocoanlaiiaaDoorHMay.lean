/- frame: FrameMay's walk. -/
import Derived.Test.YtnigocoanlaiiaaDoorHSmall
import Derived.Test.YtnigocoanlaiiaaDoorHOpenL
namespace Go.Proofs.YtnigocoanlaiiaaDoor.PE
open Go.RowKit Go.Extern.Stop Go.Stop Go.Extern Go.Proofs.YtnigocoanlaiiaaDoorW.PrintWords Go.Proofs.YtnigocoanlaiiaaDoorW.PrintLast Go.Proofs.YtnigocoanlaiiaaDoorW.PrintMore
set_option linter.unusedVariables false
set_option linter.unusedSimpArgs false
theorem sealL_len (l : List Int) : (sealL l).length = l.length + 2 := by simp [sealL]
theorem encL_len (ch sq : Int) (xs : List Int) : (encL ch sq xs).length = 5 + xs.length := by unfold encL; rw [sealL_len]; simp; omega
set_option maxHeartbeats 16000000 in
set_option maxRecDepth 100000 in
theorem may_calls (ch sq : Int) (A : Option Addr) (c : Nat) (xs : List Int) (w : World) (hC : Kd.C (Kd.int .u8) w A xs.length xs) (hcc : xs.length ≤ c) (hg : Gerr w) : Calls Tryd.prog 7 #[.agg #[.int .i64 ch, .int .i64 sq, .slice A xs.length c]] w fun e w' => e = .returned (.bool true) ∧ Below w.heap.size w w' := by
  have B0 : Aside0 (Below w.heap.size w (w.alloc (.cells #[.int .i64 ch, .int .i64 sq, .slice A xs.length c] 24))) := balloc ⟨Below.refl _ _⟩ _
  have HX0 := Aside0.mk (heap_new w (.cells #[.int .i64 ch, .int .i64 sq, .slice A xs.length c] 24))
  have HG := Aside0.mk (hg.below B0)
  have HC := Aside0.mk hC
  clear hg hC
  by_cases h3 : 300 < (xs.length : Int)
  · have d3 : decide (300 < (xs.length : Int)) = true := decide_eq_true h3
    go_enter Tryd.func7, Tryd.ntmps7
    go_wp2_with fail
    refine (small_calls _ HG.out).mono ?_
    rintro e w1 ⟨rfl, hb⟩
    have B1 := Aside0.mk (below_thenB B0.out hb B0.out.size)
    have HX1 := Aside0.mk (heap_below ⟨hb⟩ HX0.out)
    have q0 : World.cell? w1 ⟨w.heap.size, 0, none⟩ = some (.int .i64 ch) := cell_of_heap HX1.out 0
    have q1 : World.cell? w1 ⟨w.heap.size, 1, none⟩ = some (.int .i64 sq) := cell_of_heap HX1.out 1
    have q2 : World.cell? w1 ⟨w.heap.size, 2, none⟩ = some (.slice A xs.length c) := cell_of_heap HX1.out 2
    clear hb
    go_wp2_with fail
    go_ret
    exact ⟨rfl, B1.out⟩
  have d3 : decide (300 < (xs.length : Int)) = false := decide_eq_false h3
  have hx3 : xs.length ≤ 300 := by omega
  by_cases ha : argF ch sq xs.length
  · have HE := Aside0.mk (show encE ch sq xs.length = 1 ∧ (encB ch sq xs).length = 0 from ⟨if_pos ha, by unfold encB; rw [if_pos ha]; rfl⟩)
    unfold argF at ha
    by_cases hk0 : 0 ≤ ch
    rotate_left
    · have dk0 : decide (0 ≤ ch) = false := decide_eq_false hk0
      clear ha
      go_enter Tryd.func7, Tryd.ntmps7
      go_wp2_with fail
      refine (small_calls _ HG.out).mono ?_
      rintro e w1 ⟨rfl, hb⟩
      have B1 := Aside0.mk (below_thenB B0.out hb B0.out.size)
      have HX1 := Aside0.mk (heap_below ⟨hb⟩ HX0.out)
      have q0 : World.cell? w1 ⟨w.heap.size, 0, none⟩ = some (.int .i64 ch) := cell_of_heap HX1.out 0
      have q1 : World.cell? w1 ⟨w.heap.size, 1, none⟩ = some (.int .i64 sq) := cell_of_heap HX1.out 1
      have q2 : World.cell? w1 ⟨w.heap.size, 2, none⟩ = some (.slice A xs.length c) := cell_of_heap HX1.out 2
      clear hb
      go_wp2_with fail
      clear q0 q1 q2
      refine (Encode_calls ch sq A c xs w1 (Kd.C_below HC.out B1.out) hcc hx3).mono ?_
      rintro e w2 ⟨v2, e2, rfl, hE, hR, hb⟩
      have B2 := Aside0.mk (below_thenB B1.out hb B1.out.size)
      have HX2 := Aside0.mk (heap_below ⟨hb⟩ HX1.out)
      obtain ⟨A2, c2, hv, -, -⟩ := Kd.R_reads hR
      have q0 : World.cell? w2 ⟨w.heap.size, 0, none⟩ = some (.int .i64 ch) := cell_of_heap HX2.out 0
      have q1 : World.cell? w2 ⟨w.heap.size, 1, none⟩ = some (.int .i64 sq) := cell_of_heap HX2.out 1
      have q2 : World.cell? w2 ⟨w.heap.size, 2, none⟩ = some (.slice A xs.length c) := cell_of_heap HX2.out 2
      rw [HE.out.1] at hE
      rw [HE.out.2] at hv
      obtain ⟨ty, y, rfl⟩ := (hE.err (by decide)).iface
      subst hv
      clear hb hE hR
      go_wp2_with fail
      go_ret
      exact ⟨rfl, B2.out⟩
    have dk0 : decide (0 ≤ ch) = true := decide_eq_true hk0
    by_cases hk1 : ch ≤ 15
    rotate_left
    · have dk1 : decide (ch ≤ 15) = false := decide_eq_false hk1
      clear ha
      go_enter Tryd.func7, Tryd.ntmps7
      go_wp2_with fail
      refine (small_calls _ HG.out).mono ?_
      rintro e w1 ⟨rfl, hb⟩
      have B1 := Aside0.mk (below_thenB B0.out hb B0.out.size)
      have HX1 := Aside0.mk (heap_below ⟨hb⟩ HX0.out)
      have q0 : World.cell? w1 ⟨w.heap.size, 0, none⟩ = some (.int .i64 ch) := cell_of_heap HX1.out 0
      have q1 : World.cell? w1 ⟨w.heap.size, 1, none⟩ = some (.int .i64 sq) := cell_of_heap HX1.out 1
      have q2 : World.cell? w1 ⟨w.heap.size, 2, none⟩ = some (.slice A xs.length c) := cell_of_heap HX1.out 2
      clear hb
      go_wp2_with fail
      clear q0 q1 q2
      refine (Encode_calls ch sq A c xs w1 (Kd.C_below HC.out B1.out) hcc hx3).mono ?_
      rintro e w2 ⟨v2, e2, rfl, hE, hR, hb⟩
      have B2 := Aside0.mk (below_thenB B1.out hb B1.out.size)
      have HX2 := Aside0.mk (heap_below ⟨hb⟩ HX1.out)
      obtain ⟨A2, c2, hv, -, -⟩ := Kd.R_reads hR
      have q0 : World.cell? w2 ⟨w.heap.size, 0, none⟩ = some (.int .i64 ch) := cell_of_heap HX2.out 0
      have q1 : World.cell? w2 ⟨w.heap.size, 1, none⟩ = some (.int .i64 sq) := cell_of_heap HX2.out 1
      have q2 : World.cell? w2 ⟨w.heap.size, 2, none⟩ = some (.slice A xs.length c) := cell_of_heap HX2.out 2
      rw [HE.out.1] at hE
      rw [HE.out.2] at hv
      obtain ⟨ty, y, rfl⟩ := (hE.err (by decide)).iface
      subst hv
      clear hb hE hR
      go_wp2_with fail
      go_ret
      exact ⟨rfl, B2.out⟩
    have dk1 : decide (ch ≤ 15) = true := decide_eq_true hk1
    by_cases hk2 : 0 ≤ sq
    rotate_left
    · have dk2 : decide (0 ≤ sq) = false := decide_eq_false hk2
      clear ha
      go_enter Tryd.func7, Tryd.ntmps7
      go_wp2_with fail
      refine (small_calls _ HG.out).mono ?_
      rintro e w1 ⟨rfl, hb⟩
      have B1 := Aside0.mk (below_thenB B0.out hb B0.out.size)
      have HX1 := Aside0.mk (heap_below ⟨hb⟩ HX0.out)
      have q0 : World.cell? w1 ⟨w.heap.size, 0, none⟩ = some (.int .i64 ch) := cell_of_heap HX1.out 0
      have q1 : World.cell? w1 ⟨w.heap.size, 1, none⟩ = some (.int .i64 sq) := cell_of_heap HX1.out 1
      have q2 : World.cell? w1 ⟨w.heap.size, 2, none⟩ = some (.slice A xs.length c) := cell_of_heap HX1.out 2
      clear hb
      go_wp2_with fail
      clear q0 q1 q2
      refine (Encode_calls ch sq A c xs w1 (Kd.C_below HC.out B1.out) hcc hx3).mono ?_
      rintro e w2 ⟨v2, e2, rfl, hE, hR, hb⟩
      have B2 := Aside0.mk (below_thenB B1.out hb B1.out.size)
      have HX2 := Aside0.mk (heap_below ⟨hb⟩ HX1.out)
      obtain ⟨A2, c2, hv, -, -⟩ := Kd.R_reads hR
      have q0 : World.cell? w2 ⟨w.heap.size, 0, none⟩ = some (.int .i64 ch) := cell_of_heap HX2.out 0
      have q1 : World.cell? w2 ⟨w.heap.size, 1, none⟩ = some (.int .i64 sq) := cell_of_heap HX2.out 1
      have q2 : World.cell? w2 ⟨w.heap.size, 2, none⟩ = some (.slice A xs.length c) := cell_of_heap HX2.out 2
      rw [HE.out.1] at hE
      rw [HE.out.2] at hv
      obtain ⟨ty, y, rfl⟩ := (hE.err (by decide)).iface
      subst hv
      clear hb hE hR
      go_wp2_with fail
      go_ret
      exact ⟨rfl, B2.out⟩
    have dk2 : decide (0 ≤ sq) = true := decide_eq_true hk2
    by_cases hk3 : sq ≤ 255
    rotate_left
    · have dk3 : decide (sq ≤ 255) = false := decide_eq_false hk3
      clear ha
      go_enter Tryd.func7, Tryd.ntmps7
      go_wp2_with fail
      refine (small_calls _ HG.out).mono ?_
      rintro e w1 ⟨rfl, hb⟩
      have B1 := Aside0.mk (below_thenB B0.out hb B0.out.size)
      have HX1 := Aside0.mk (heap_below ⟨hb⟩ HX0.out)
      have q0 : World.cell? w1 ⟨w.heap.size, 0, none⟩ = some (.int .i64 ch) := cell_of_heap HX1.out 0
      have q1 : World.cell? w1 ⟨w.heap.size, 1, none⟩ = some (.int .i64 sq) := cell_of_heap HX1.out 1
      have q2 : World.cell? w1 ⟨w.heap.size, 2, none⟩ = some (.slice A xs.length c) := cell_of_heap HX1.out 2
      clear hb
      go_wp2_with fail
      clear q0 q1 q2
      refine (Encode_calls ch sq A c xs w1 (Kd.C_below HC.out B1.out) hcc hx3).mono ?_
      rintro e w2 ⟨v2, e2, rfl, hE, hR, hb⟩
      have B2 := Aside0.mk (below_thenB B1.out hb B1.out.size)
      have HX2 := Aside0.mk (heap_below ⟨hb⟩ HX1.out)
      obtain ⟨A2, c2, hv, -, -⟩ := Kd.R_reads hR
      have q0 : World.cell? w2 ⟨w.heap.size, 0, none⟩ = some (.int .i64 ch) := cell_of_heap HX2.out 0
      have q1 : World.cell? w2 ⟨w.heap.size, 1, none⟩ = some (.int .i64 sq) := cell_of_heap HX2.out 1
      have q2 : World.cell? w2 ⟨w.heap.size, 2, none⟩ = some (.slice A xs.length c) := cell_of_heap HX2.out 2
      rw [HE.out.1] at hE
      rw [HE.out.2] at hv
      obtain ⟨ty, y, rfl⟩ := (hE.err (by decide)).iface
      subst hv
      clear hb hE hR
      go_wp2_with fail
      go_ret
      exact ⟨rfl, B2.out⟩
    have dk3 : decide (sq ≤ 255) = true := decide_eq_true hk3
    have dk4 : decide ((xs.length : Int) ≤ 16) = false := decide_eq_false (by omega)
    clear ha
    go_enter Tryd.func7, Tryd.ntmps7
    go_wp2_with fail
    refine (small_calls _ HG.out).mono ?_
    rintro e w1 ⟨rfl, hb⟩
    have B1 := Aside0.mk (below_thenB B0.out hb B0.out.size)
    have HX1 := Aside0.mk (heap_below ⟨hb⟩ HX0.out)
    have q0 : World.cell? w1 ⟨w.heap.size, 0, none⟩ = some (.int .i64 ch) := cell_of_heap HX1.out 0
    have q1 : World.cell? w1 ⟨w.heap.size, 1, none⟩ = some (.int .i64 sq) := cell_of_heap HX1.out 1
    have q2 : World.cell? w1 ⟨w.heap.size, 2, none⟩ = some (.slice A xs.length c) := cell_of_heap HX1.out 2
    clear hb
    go_wp2_with fail
    clear q0 q1 q2
    refine (Encode_calls ch sq A c xs w1 (Kd.C_below HC.out B1.out) hcc hx3).mono ?_
    rintro e w2 ⟨v2, e2, rfl, hE, hR, hb⟩
    have B2 := Aside0.mk (below_thenB B1.out hb B1.out.size)
    have HX2 := Aside0.mk (heap_below ⟨hb⟩ HX1.out)
    obtain ⟨A2, c2, hv, -, -⟩ := Kd.R_reads hR
    have q0 : World.cell? w2 ⟨w.heap.size, 0, none⟩ = some (.int .i64 ch) := cell_of_heap HX2.out 0
    have q1 : World.cell? w2 ⟨w.heap.size, 1, none⟩ = some (.int .i64 sq) := cell_of_heap HX2.out 1
    have q2 : World.cell? w2 ⟨w.heap.size, 2, none⟩ = some (.slice A xs.length c) := cell_of_heap HX2.out 2
    rw [HE.out.1] at hE
    rw [HE.out.2] at hv
    obtain ⟨ty, y, rfl⟩ := (hE.err (by decide)).iface
    subst hv
    clear hb hE hR
    go_wp2_with fail
    go_ret
    exact ⟨rfl, B2.out⟩
  · have HE := Aside0.mk (show encE ch sq xs.length = 0 ∧ (encB ch sq xs).length = 5 + xs.length from ⟨if_neg ha, by unfold encB; rw [if_neg ha]; exact encL_len ch sq xs⟩)
    unfold argF at ha
    have dk0 : decide (0 ≤ ch) = true := decide_eq_true (by omega)
    have dk1 : decide (ch ≤ 15) = true := decide_eq_true (by omega)
    have dk2 : decide (0 ≤ sq) = true := decide_eq_true (by omega)
    have dk3 : decide (sq ≤ 255) = true := decide_eq_true (by omega)
    have dk4 : decide ((xs.length : Int) ≤ 16) = true := decide_eq_true (by omega)
    have HW := Aside0.mk (show wrap64 (5 + (xs.length : Int)) = 5 + xs.length by unfold wrap64; omega)
    clear ha
    go_enter Tryd.func7, Tryd.ntmps7
    go_wp2_with fail
    refine (small_calls _ HG.out).mono ?_
    rintro e w1 ⟨rfl, hb⟩
    have B1 := Aside0.mk (below_thenB B0.out hb B0.out.size)
    have HX1 := Aside0.mk (heap_below ⟨hb⟩ HX0.out)
    have q0 : World.cell? w1 ⟨w.heap.size, 0, none⟩ = some (.int .i64 ch) := cell_of_heap HX1.out 0
    have q1 : World.cell? w1 ⟨w.heap.size, 1, none⟩ = some (.int .i64 sq) := cell_of_heap HX1.out 1
    have q2 : World.cell? w1 ⟨w.heap.size, 2, none⟩ = some (.slice A xs.length c) := cell_of_heap HX1.out 2
    clear hb
    go_wp2_with fail
    clear q0 q1 q2
    refine (Encode_calls ch sq A c xs w1 (Kd.C_below HC.out B1.out) hcc hx3).mono ?_
    rintro e w2 ⟨v2, e2, rfl, hE, hR, hb⟩
    have B2 := Aside0.mk (below_thenB B1.out hb B1.out.size)
    have HX2 := Aside0.mk (heap_below ⟨hb⟩ HX1.out)
    obtain ⟨A2, c2, hv, -, -⟩ := Kd.R_reads hR
    have q0 : World.cell? w2 ⟨w.heap.size, 0, none⟩ = some (.int .i64 ch) := cell_of_heap HX2.out 0
    have q1 : World.cell? w2 ⟨w.heap.size, 1, none⟩ = some (.int .i64 sq) := cell_of_heap HX2.out 1
    have q2 : World.cell? w2 ⟨w.heap.size, 2, none⟩ = some (.slice A xs.length c) := cell_of_heap HX2.out 2
    rw [HE.out.1] at hE
    have := hE.nil; subst this
    rw [HE.out.2] at hv
    have hw := HW.out
    subst hv
    clear hb hE hR
    go_wp2_with fail
    go_ret
    exact ⟨rfl, B2.out⟩
theorem may_walk (ch sq : Int) (xs : List Int) (A : Option Addr) (c : Nat) (w : World) (hC : Kd.C (Kd.int .u8) w A xs.length xs) (hl : xs.length ≤ c) (_ : Bytes xs) (hg : Gerr w) : Calls Tryd.prog 7 #[.agg #[.int .i64 ch, .int .i64 sq, .slice A xs.length c]] w fun e w' => e = .returned (.bool true) ∧ Below w.heap.size w w' := may_calls ch sq A c xs w hC hl hg
end Go.Proofs.YtnigocoanlaiiaaDoor.PE

