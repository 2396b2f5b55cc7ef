/- frame: FrameCodes' walk. -/
import Derived.Test.YtnigocoanlaiiaaDoorHRDec
namespace Go.Proofs.YtnigocoanlaiiaaDoor.PE
open Go.RowKit Go.Extern.Stop Go.Stop Go.Extern Go.Proofs.YtnigocoanlaiiaaDoorW.PrintWords Go.Proofs.YtnigocoanlaiiaaDoorW.PrintLast Go.Proofs.YtnigocoanlaiiaaDoorW.PrintMore
set_option linter.unusedVariables false
set_option linter.unusedSimpArgs false
theorem Code_any (v : Value) (c : Int) (w : World) (hg : Gerr w) (hv : ErrV w c v) : Calls Tryd.prog 14 #[v] w fun e w' => e = .returned (.int .i64 c) ∧ Below w.heap.size w w' := Code_calls v c w hg hv
theorem bytes_decD {l : List Int} (h : Bytes l) : Bytes (decD l) := by
  unfold decD
  split
  · exact fun y hy => bytes_open h y (List.mem_of_mem_drop hy)
  · exact fun y hy => absurd hy (by simp)
set_option maxHeartbeats 16000000 in
set_option maxRecDepth 100000 in
theorem fcodes_calls (ch sq : Int) (xs : List Int) (A : Option Addr) (c : Nat) (l : List Int) (A' : Option Addr) (c' : Nat) (w : World) (hC : Kd.C (Kd.int .u8) w A xs.length xs) (hcc : xs.length ≤ c) (hB : Bytes xs) (hC' : Kd.C (Kd.int .u8) w A' l.length l) (hcc' : l.length ≤ c') (hB' : Bytes l) (hg : Gerr w) : Calls Tryd.prog 3 #[.agg #[.int .i64 ch, .int .i64 sq, .slice A xs.length c], .slice A' l.length c'] w fun e w' => e = .returned (.bool true) ∧ Below w.heap.size w w' := by
  have B0 : Aside0 (Below w.heap.size w (w.alloc (.cells #[.int .i64 ch, .int .i64 sq, .slice A xs.length c] 24))) := balloc ⟨Below.refl _ _⟩ _
  have HX0 := Aside0.mk (heap_new w (.cells #[.int .i64 ch, .int .i64 sq, .slice A xs.length c] 24))
  have HG := Aside0.mk (hg.below B0)
  have HG0 := Aside0.mk hg
  have HC := Aside0.mk hC
  have HC' := Aside0.mk hC'
  have HB := Aside0.mk hB
  have HB' := Aside0.mk hB'
  clear hg hC hC' hB hB'
  by_cases h3 : 300 < (xs.length : Int)
  · have dh3 : decide (300 < (xs.length : Int)) = true := decide_eq_true h3
    go_enter Tryd.func3, Tryd.ntmps3
    go_wp2_with fail
    refine (small_calls _ HG.out).mono ?_
    rintro e w1 ⟨rfl, hb⟩
    have B1 := Aside0.mk (below_thenB B0.out hb B0.out.size)
    have HX1 := Aside0.mk (heap_below ⟨hb⟩ HX0.out)
    have q0 : World.cell? w1 ⟨w.heap.size, 0, none⟩ = some (.int .i64 ch) := cell_of_heap HX1.out 0
    have q1 : World.cell? w1 ⟨w.heap.size, 1, none⟩ = some (.int .i64 sq) := cell_of_heap HX1.out 1
    have q2 : World.cell? w1 ⟨w.heap.size, 2, none⟩ = some (.slice A xs.length c) := cell_of_heap HX1.out 2
    clear hb
    go_wp2_with fail
    go_ret
    exact ⟨rfl, B1.out⟩
  have dh3 : decide (300 < (xs.length : Int)) = false := decide_eq_false h3
  by_cases h4 : 300 < (l.length : Int)
  · have dh4 : decide (300 < (l.length : Int)) = true := decide_eq_true h4
    go_enter Tryd.func3, Tryd.ntmps3
    go_wp2_with fail
    refine (small_calls _ HG.out).mono ?_
    rintro e w1 ⟨rfl, hb⟩
    have B1 := Aside0.mk (below_thenB B0.out hb B0.out.size)
    have HX1 := Aside0.mk (heap_below ⟨hb⟩ HX0.out)
    have q0 : World.cell? w1 ⟨w.heap.size, 0, none⟩ = some (.int .i64 ch) := cell_of_heap HX1.out 0
    have q1 : World.cell? w1 ⟨w.heap.size, 1, none⟩ = some (.int .i64 sq) := cell_of_heap HX1.out 1
    have q2 : World.cell? w1 ⟨w.heap.size, 2, none⟩ = some (.slice A xs.length c) := cell_of_heap HX1.out 2
    clear hb
    go_wp2_with fail
    go_ret
    exact ⟨rfl, B1.out⟩
  have dh4 : decide (300 < (l.length : Int)) = false := decide_eq_false h4
  go_enter Tryd.func3, Tryd.ntmps3
  go_wp2_with fail
  refine (small_calls _ HG.out).mono ?_
  rintro e w1 ⟨rfl, hb⟩
  have B1 := Aside0.mk (below_thenB B0.out hb B0.out.size)
  have HX1 := Aside0.mk (heap_below ⟨hb⟩ HX0.out)
  have q0 : World.cell? w1 ⟨w.heap.size, 0, none⟩ = some (.int .i64 ch) := cell_of_heap HX1.out 0
  have q1 : World.cell? w1 ⟨w.heap.size, 1, none⟩ = some (.int .i64 sq) := cell_of_heap HX1.out 1
  have q2 : World.cell? w1 ⟨w.heap.size, 2, none⟩ = some (.slice A xs.length c) := cell_of_heap HX1.out 2
  clear hb
  go_wp2_with fail
  clear q0 q1 q2
  refine (Encode_calls ch sq A c xs w1 (Kd.C_below HC.out B1.out) hcc (by omega)).mono ?_
  rintro e w2 ⟨v2, e2, rfl, hE, hR, hb⟩
  have B2 := Aside0.mk (below_thenB B1.out hb B1.out.size)
  have HX2 := Aside0.mk (heap_below ⟨hb⟩ HX1.out)
  obtain ⟨A2, c2, rfl, -, hC2⟩ := Kd.R_reads hR
  have C2 := Aside0.mk hC2
  have E2 := Aside0.mk hE
  clear hb hR hC2 hE
  have q0 : World.cell? w2 ⟨w.heap.size, 0, none⟩ = some (.int .i64 ch) := cell_of_heap HX2.out 0
  have q1 : World.cell? w2 ⟨w.heap.size, 1, none⟩ = some (.int .i64 sq) := cell_of_heap HX2.out 1
  have q2 : World.cell? w2 ⟨w.heap.size, 2, none⟩ = some (.slice A xs.length c) := cell_of_heap HX2.out 2
  go_wp2_with fail
  clear q0 q1 q2
  refine (REncode_calls ch sq A c xs w2 (Kd.C_below HC.out B2.out) hcc (by omega)).mono ?_
  rintro e w3 ⟨v3, rfl, hR, hb⟩
  have B3 := Aside0.mk (below_thenB B2.out hb B2.out.size)
  obtain ⟨A3, c3, rfl, -, hC3⟩ := Kd.R_reads hR
  have C3 := Aside0.mk hC3
  have C2b := Aside0.mk (Kd.C_below C2.out hb)
  have E3 := Aside0.mk (E2.out.below ⟨hb⟩)
  clear hb hR hC3 C2 E2
  generalize encB ch sq xs = X at C2b C3 ⊢
  generalize encE ch sq xs.length = ee at E3 ⊢
  go_wp2_with fail
  refine (Decode_calls A' c' l w3 (Kd.C_below HC'.out B3.out) hcc' (by omega) HB'.out).mono ?_
  rintro e w4 ⟨v4, e4, rfl, hE, ⟨A4, c4, rfl, hc4, hC4⟩, hb⟩
  have B4 := Aside0.mk (below_thenB B3.out hb B3.out.size)
  have C4 := Aside0.mk hC4
  have D4 := Aside0.mk hc4
  have F4 := Aside0.mk hE
  have C2c := Aside0.mk (Kd.C_below C2b.out hb)
  have C3c := Aside0.mk (Kd.C_below C3.out hb)
  have E4 := Aside0.mk (E3.out.below ⟨hb⟩)
  clear hb hE hC4 hc4 C2b C3 E3
  go_upto_region 7 with fail
  have hbX := below_alloc (Below.refl w4.heap.size w4) (.cells #[.int .i64 (decC l), .int .i64 (decQ l), .slice A4 (decD l).length c4] 24)
  have HY := Aside0.mk (heap_new w4 (.cells #[.int .i64 (decC l), .int .i64 (decQ l), .slice A4 (decD l).length c4] 24))
  obtain ⟨w5, hw5⟩ : ∃ w5, w5 = w4.alloc (.cells #[.int .i64 (decC l), .int .i64 (decQ l), .slice A4 (decD l).length c4] 24) := ⟨_, rfl⟩
  rw [← hw5] at hbX HY ⊢
  have B5 := Aside0.mk (below_thenB B4.out hbX B4.out.size)
  have C2d := Aside0.mk (Kd.C_below C2c.out hbX)
  have C3d := Aside0.mk (Kd.C_below C3c.out hbX)
  have C4d := Aside0.mk (Kd.C_below C4.out hbX)
  have E5 := Aside0.mk (E4.out.below ⟨hbX⟩)
  have F5 := Aside0.mk (F4.out.below ⟨hbX⟩)
  clear hw5 hbX C2c C3c C4 E4 F4
  go_wp2_with fail
  refine (RDecode_calls A' c' l w5 (Kd.C_below HC'.out B5.out) hcc' (by omega) HB'.out).mono ?_
  rintro e w6 ⟨v6, rfl, ⟨A6, c6, rfl, hc6, hC6⟩, hb⟩
  have B6 := Aside0.mk (below_thenB B5.out hb B5.out.size)
  have C6 := Aside0.mk hC6
  have D6 := Aside0.mk hc6
  have HY6 := Aside0.mk (heap_below ⟨hb⟩ HY.out)
  have C2e := Aside0.mk (Kd.C_below C2d.out hb)
  have C3e := Aside0.mk (Kd.C_below C3d.out hb)
  have C4e := Aside0.mk (Kd.C_below C4d.out hb)
  have E6 := Aside0.mk (E5.out.below ⟨hb⟩)
  have F6 := Aside0.mk (F5.out.below ⟨hb⟩)
  have HBD := Aside0.mk (bytes_decD HB'.out)
  clear hb hC6 hc6 C2d C3d C4d E5 F5 HY
  generalize decC l = z0 at HY6 ⊢
  generalize decQ l = z1 at HY6 ⊢
  generalize decD l = z2 at HY6 HBD C4e C6 D4 D6 ⊢
  generalize decE l = ze at F6 ⊢
  go_upto_region 8 with fail
  have hbX := below_alloc (Below.refl w6.heap.size w6) (.cells #[.int .i64 z0, .int .i64 z1, .slice A6 z2.length c6] 24)
  have HZ := Aside0.mk (heap_new w6 (.cells #[.int .i64 z0, .int .i64 z1, .slice A6 z2.length c6] 24))
  obtain ⟨w7, hw7⟩ : ∃ w7, w7 = w6.alloc (.cells #[.int .i64 z0, .int .i64 z1, .slice A6 z2.length c6] 24) := ⟨_, rfl⟩
  rw [← hw7] at hbX HZ ⊢
  have B7 := Aside0.mk (below_thenB B6.out hbX B6.out.size)
  have HY7 := Aside0.mk (heap_below ⟨hbX⟩ HY6.out)
  have C4f := Aside0.mk (Kd.C_below C4e.out hbX)
  have C6f := Aside0.mk (Kd.C_below C6.out hbX)
  have E7 := Aside0.mk (E6.out.below ⟨hbX⟩)
  have F7 := Aside0.mk (F6.out.below ⟨hbX⟩)
  have hv1 : (convert 22 9 (.slice A2 X.length c2)).run Tryd.prog w7 = .ok (.string (strOfNums X)) w7 := Kd.C_string (P := Tryd.prog) (src := 22) (dst := 9) (e := 5) (c := c2) Tryd.underlying22 Tryd.underlying5 Tryd.underlying9 (Kd.C_below C2e.out hbX)
  have hv2 : (convert 22 9 (.slice A3 X.length c3)).run Tryd.prog w7 = .ok (.string (strOfNums X)) w7 := Kd.C_string (P := Tryd.prog) (src := 22) (dst := 9) (e := 5) (c := c3) Tryd.underlying22 Tryd.underlying5 Tryd.underlying9 (Kd.C_below C3e.out hbX)
  clear hw7 hbX C2e C3e C4e C6 E6 F6 HY6
  go_wp2_with fail
  clear hv1 hv2
  refine (Code_any e2 ee w7 (HG0.out.below B7) E7.out).mono ?_
  rintro e w8 ⟨rfl, hb⟩
  have B8 := Aside0.mk (below_thenB B7.out hb B7.out.size)
  have HY8 := Aside0.mk (heap_below ⟨hb⟩ HY7.out)
  have HZ8 := Aside0.mk (heap_below ⟨hb⟩ HZ.out)
  have C4g := Aside0.mk (Kd.C_below C4f.out hb)
  have C6g := Aside0.mk (Kd.C_below C6f.out hb)
  have F8 := Aside0.mk (F7.out.below ⟨hb⟩)
  clear hb C4f C6f E7 F7 HY7
  have y0 : World.cell? w8 ⟨w4.heap.size, 0, none⟩ = some (.int .i64 z0) := cell_of_heap HY8.out 0
  have y1 : World.cell? w8 ⟨w4.heap.size, 1, none⟩ = some (.int .i64 z1) := cell_of_heap HY8.out 1
  have y2 : World.cell? w8 ⟨w4.heap.size, 2, none⟩ = some (.slice A4 z2.length c4) := cell_of_heap HY8.out 2
  have x0 : World.cell? w8 ⟨w6.heap.size, 0, none⟩ = some (.int .i64 z0) := cell_of_heap HZ8.out 0
  have x1 : World.cell? w8 ⟨w6.heap.size, 1, none⟩ = some (.int .i64 z1) := cell_of_heap HZ8.out 1
  have x2 : World.cell? w8 ⟨w6.heap.size, 2, none⟩ = some (.slice A6 z2.length c6) := cell_of_heap HZ8.out 2
  go_wp2_with fail
  refine (Same_calls z0 z1 A4 c4 z2 z0 z1 A6 c6 z2 w8 C4g.out D4.out C6g.out D6.out HBD.out HBD.out).mono ?_
  rintro e w9 ⟨rfl, hb⟩
  have B9 := Aside0.mk (below_thenB B8.out hb B8.out.size)
  have F9 := Aside0.mk (F8.out.below ⟨hb⟩)
  rw [decide_eq_true (show (z0 = z0 ∧ z1 = z1 ∧ z2 = z2) from ⟨rfl, rfl, rfl⟩)]
  clear hb y0 y1 y2 x0 x1 x2 F8
  go_wp2_with fail
  refine (Code_any e4 ze w9 (HG0.out.below B9) F9.out).mono ?_
  rintro e w10 ⟨rfl, hb⟩
  have B10 := Aside0.mk (below_thenB B9.out hb B9.out.size)
  clear hb
  go_wp2_with fail
  go_ret
  exact ⟨rfl, B10.out⟩
theorem fcodes_walk (ch sq : Int) (xs : List Int) (A : Option Addr) (c : Nat) (l : List Int) (A' : Option Addr) (c' : Nat) (w : World) (hC : Kd.C (Kd.int .u8) w A xs.length xs) (hcc : xs.length ≤ c) (hB : Bytes xs) (hC' : Kd.C (Kd.int .u8) w A' l.length l) (hcc' : l.length ≤ c') (hB' : Bytes l) (hg : Gerr w) : Calls Tryd.prog 3 #[.agg #[.int .i64 ch, .int .i64 sq, .slice A xs.length c], .slice A' l.length c'] w fun e w' => e = .returned (.bool true) ∧ Below w.heap.size w w' := fcodes_calls ch sq xs A c l A' c' w hC hcc hB hC' hcc' hB' hg
end Go.Proofs.YtnigocoanlaiiaaDoor.PE

