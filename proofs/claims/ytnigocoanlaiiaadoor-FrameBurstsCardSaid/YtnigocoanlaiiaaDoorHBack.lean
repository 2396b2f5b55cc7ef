/- frame: FrameBack's walk. -/
import Derived.Test.YtnigocoanlaiiaaDoorHRes
namespace Go.Proofs.YtnigocoanlaiiaaDoor.PE
open Go.RowKit Go.Extern.Stop Go.Stop Go.Extern Go.Proofs.YtnigocoanlaiiaaDoorW.PrintWords Go.Proofs.YtnigocoanlaiiaaDoorW.PrintLast Go.Proofs.YtnigocoanlaiiaaDoorW.PrintMore
set_option linter.unusedVariables false
set_option linter.unusedSimpArgs false
theorem enc_back {l : List Int} (hb : Bytes l) (h : decE l = 0) : encE (decC l) (decQ l) (decD l).length = 0 ∧ encB (decC l) (decQ l) (decD l) = l := by
  have r := enc_of_dec hb h
  exact ⟨if_neg r.1, by unfold encB; rw [if_neg r.1]; exact r.2⟩
theorem dec_zero {l : List Int} (h : decE l ≠ 0) : decC l = 0 ∧ decQ l = 0 ∧ decD l = [] := by
  unfold decC decQ decD
  exact ⟨if_neg h, if_neg h, if_neg h⟩
theorem bytes_dec {l : List Int} (h : Bytes l) : Bytes (decD l) := by
  unfold decD
  split
  · exact fun y hy => bytes_open h y (List.mem_of_mem_drop hy)
  · exact fun y hy => absurd hy (by simp)
set_option maxHeartbeats 16000000 in
set_option maxRecDepth 100000 in
theorem fback_calls (ch sq : Int) (xs : List Int) (A : Option Addr) (c : Nat) (l : List Int) (A' : Option Addr) (c' : Nat) (w : World) (hC : Kd.C (Kd.int .u8) w A xs.length xs) (hcc : xs.length ≤ c) (hB : Bytes xs) (hC' : Kd.C (Kd.int .u8) w A' l.length l) (hcc' : l.length ≤ c') (hB' : Bytes l) (hg : Gerr w) : Calls Tryd.prog 4 #[.agg #[.int .i64 ch, .int .i64 sq, .slice A xs.length c], .slice A' l.length c'] w fun e w' => e = .returned (.bool true) ∧ Below w.heap.size w w' := by
  have B0 : Aside0 (Below w.heap.size w (w.alloc (.cells #[.int .i64 ch, .int .i64 sq, .slice A xs.length c] 24))) := balloc ⟨Below.refl _ _⟩ _
  have HX0 := Aside0.mk (heap_new w (.cells #[.int .i64 ch, .int .i64 sq, .slice A xs.length c] 24))
  have HG := Aside0.mk (hg.below B0)
  have HC := Aside0.mk hC
  have HC' := Aside0.mk hC'
  have HB := Aside0.mk hB
  have HB' := Aside0.mk hB'
  clear hg hC hC' hB hB'
  by_cases h3 : 300 < (xs.length : Int)
  · have dh3 : decide (300 < (xs.length : Int)) = true := decide_eq_true h3
    go_enter Tryd.func4, Tryd.ntmps4
    go_wp2_with fail
    refine (small_calls _ HG.out).mono ?_
    rintro e w1 ⟨rfl, hb⟩
    have B1 := Aside0.mk (below_thenB B0.out hb B0.out.size)
    have HX1 := Aside0.mk (heap_below ⟨hb⟩ HX0.out)
    have q0 : World.cell? w1 ⟨w.heap.size, 0, none⟩ = some (.int .i64 ch) := cell_of_heap HX1.out 0
    have q1 : World.cell? w1 ⟨w.heap.size, 1, none⟩ = some (.int .i64 sq) := cell_of_heap HX1.out 1
    have q2 : World.cell? w1 ⟨w.heap.size, 2, none⟩ = some (.slice A xs.length c) := cell_of_heap HX1.out 2
    clear hb
    go_wp2_with fail
    go_ret
    exact ⟨rfl, B1.out⟩
  have dh3 : decide (300 < (xs.length : Int)) = false := decide_eq_false h3
  by_cases h4 : 300 < (l.length : Int)
  · have dh4 : decide (300 < (l.length : Int)) = true := decide_eq_true h4
    go_enter Tryd.func4, Tryd.ntmps4
    go_wp2_with fail
    refine (small_calls _ HG.out).mono ?_
    rintro e w1 ⟨rfl, hb⟩
    have B1 := Aside0.mk (below_thenB B0.out hb B0.out.size)
    have HX1 := Aside0.mk (heap_below ⟨hb⟩ HX0.out)
    have q0 : World.cell? w1 ⟨w.heap.size, 0, none⟩ = some (.int .i64 ch) := cell_of_heap HX1.out 0
    have q1 : World.cell? w1 ⟨w.heap.size, 1, none⟩ = some (.int .i64 sq) := cell_of_heap HX1.out 1
    have q2 : World.cell? w1 ⟨w.heap.size, 2, none⟩ = some (.slice A xs.length c) := cell_of_heap HX1.out 2
    clear hb
    go_wp2_with fail
    go_ret
    exact ⟨rfl, B1.out⟩
  have dh4 : decide (300 < (l.length : Int)) = false := decide_eq_false h4
  go_enter Tryd.func4, Tryd.ntmps4
  go_wp2_with fail
  refine (small_calls _ HG.out).mono ?_
  rintro e w1 ⟨rfl, hb⟩
  have B1 := Aside0.mk (below_thenB B0.out hb B0.out.size)
  have HX1 := Aside0.mk (heap_below ⟨hb⟩ HX0.out)
  have q0 : World.cell? w1 ⟨w.heap.size, 0, none⟩ = some (.int .i64 ch) := cell_of_heap HX1.out 0
  have q1 : World.cell? w1 ⟨w.heap.size, 1, none⟩ = some (.int .i64 sq) := cell_of_heap HX1.out 1
  have q2 : World.cell? w1 ⟨w.heap.size, 2, none⟩ = some (.slice A xs.length c) := cell_of_heap HX1.out 2
  clear hb
  go_wp2_with fail
  clear q0 q1 q2
  refine (Encode_calls ch sq A c xs w1 (Kd.C_below HC.out B1.out) hcc (by omega)).mono ?_
  rintro e w2 ⟨v2, e2, rfl, hE, hR, hb⟩
  have B2 := Aside0.mk (below_thenB B1.out hb B1.out.size)
  have HX2 := Aside0.mk (heap_below ⟨hb⟩ HX1.out)
  obtain ⟨A2, c2, rfl, hc2, hC2⟩ := Kd.R_reads hR
  clear hb hR
  by_cases ha : argF ch sq xs.length
  · have h1 : encE ch sq xs.length = 1 := if_pos ha
    rw [h1] at hE
    obtain ⟨ty, y, rfl⟩ := (hE.err (by decide)).iface
    generalize (encB ch sq xs).length = m2
    clear hE h1 ha hc2 hC2
    go_wp2_with fail
    refine (Decode_calls A' c' l w2 (Kd.C_below HC'.out B2.out) hcc' (by omega) HB'.out).mono ?_
    rintro e w5 ⟨v5, e5, rfl, hE, ⟨A5, c5, rfl, hc5, hC5⟩, hb⟩
    have B5 := Aside0.mk (below_thenB B2.out hb B2.out.size)
    have C5 := Aside0.mk hC5
    have D5 := Aside0.mk hc5
    clear hb hC5 hc5
    by_cases hz : decE l = 0
    · have r := enc_back HB'.out hz
      have HED := Aside0.mk r
      rw [hz] at hE
      have := hE.nil; subst this
      clear r hz hE
      generalize decC l = z0 at HED ⊢
      generalize decQ l = z1 at HED ⊢
      generalize decD l = z2 at HED C5 D5 ⊢
      go_upto_region 10 with fail
      have hbX := below_alloc (Below.refl w5.heap.size w5) (.cells #[.int .i64 z0, .int .i64 z1, .slice A5 z2.length c5] 24)
      have HZ := Aside0.mk (heap_new w5 (.cells #[.int .i64 z0, .int .i64 z1, .slice A5 z2.length c5] 24))
      obtain ⟨w6, hw6⟩ : ∃ w6, w6 = w5.alloc (.cells #[.int .i64 z0, .int .i64 z1, .slice A5 z2.length c5] 24) := ⟨_, rfl⟩
      rw [← hw6] at hbX HZ ⊢
      have B6 := Aside0.mk (below_thenB B5.out hbX B5.out.size)
      have C6 := Aside0.mk (Kd.C_below C5.out hbX)
      clear hw6 hbX
      have z0c : World.cell? w6 ⟨w5.heap.size, 0, none⟩ = some (.int .i64 z0) := cell_of_heap HZ.out 0
      have z1c : World.cell? w6 ⟨w5.heap.size, 1, none⟩ = some (.int .i64 z1) := cell_of_heap HZ.out 1
      have z2c : World.cell? w6 ⟨w5.heap.size, 2, none⟩ = some (.slice A5 z2.length c5) := cell_of_heap HZ.out 2
      have HZL := Aside0.mk (show z2.length ≤ 300 by
        have h1 := congrArg List.length HED.out.2
        unfold encB at h1
        split at h1
        · rename_i hh; have h2 := HED.out.1; unfold encE at h2; rw [if_pos hh] at h2; exact absurd h2 (by decide)
        · rw [encL_len] at h1; omega)
      go_wp2_with fail
      refine (Encode_calls z0 z1 A5 c5 z2 w6 C6.out D5.out HZL.out).mono ?_
      rintro e w7 ⟨v7, e7, rfl, hE, hR, hb⟩
      rw [HED.out.1] at hE
      rw [HED.out.2] at hR
      have := hE.nil; subst this
      obtain ⟨A7, c7, rfl, -, hC7⟩ := Kd.R_reads hR
      have B7 := Aside0.mk (below_thenB B6.out hb B6.out.size)
      have hv1 : (convert 22 9 (.slice A7 l.length c7)).run Tryd.prog w7 = .ok (.string (strOfNums l)) w7 := Kd.C_string (P := Tryd.prog) (src := 22) (dst := 9) (e := 5) (c := c7) Tryd.underlying22 Tryd.underlying5 Tryd.underlying9 hC7
      have hv2 : (convert 22 9 (.slice A' l.length c')).run Tryd.prog w7 = .ok (.string (strOfNums l)) w7 := Kd.C_string (P := Tryd.prog) (src := 22) (dst := 9) (e := 5) (c := c') Tryd.underlying22 Tryd.underlying5 Tryd.underlying9 (Kd.C_below HC'.out B7.out)
      clear hb hE hR hC7 z0c z1c z2c
      go_wp2_with fail
      go_ret
      exact ⟨rfl, B7.out⟩
    · have r := dec_zero hz
      rw [r.2.2] at C5 D5 ⊢
      rw [r.1, r.2.1]
      have hP := hE.err hz
      obtain ⟨ty, y, rfl⟩ := hP.iface
      clear r hz hE hP
      go_upto_region 10 with fail
      have hbX := below_alloc (Below.refl w5.heap.size w5) (.cells #[.int .i64 0, .int .i64 0, .slice A5 0 c5] 24)
      have HZ := Aside0.mk (heap_new w5 (.cells #[.int .i64 0, .int .i64 0, .slice A5 0 c5] 24))
      obtain ⟨w6, hw6⟩ : ∃ w6, w6 = w5.alloc (.cells #[.int .i64 0, .int .i64 0, .slice A5 0 c5] 24) := ⟨_, rfl⟩
      rw [← hw6] at hbX HZ ⊢
      have B6 := Aside0.mk (below_thenB B5.out hbX B5.out.size)
      have C6 := Aside0.mk (Kd.C_below C5.out hbX)
      clear hw6 hbX
      have z0c : World.cell? w6 ⟨w5.heap.size, 0, none⟩ = some (.int .i64 0) := cell_of_heap HZ.out 0
      have z1c : World.cell? w6 ⟨w5.heap.size, 1, none⟩ = some (.int .i64 0) := cell_of_heap HZ.out 1
      have z2c : World.cell? w6 ⟨w5.heap.size, 2, none⟩ = some (.slice A5 0 c5) := cell_of_heap HZ.out 2
      go_wp2_with fail
      refine (Same_calls 0 0 A5 c5 [] 0 0 none 0 [] w6 C6.out D5.out (Kd.C_nil _ _) (Nat.le_refl _) (fun y hy => absurd hy (by simp)) (fun y hy => absurd hy (by simp))).mono ?_
      rintro e w7 ⟨rfl, hb⟩
      have B7 := Aside0.mk (below_thenB B6.out hb B6.out.size)
      rw [decide_eq_true (show ((0 : Int) = 0 ∧ (0 : Int) = 0 ∧ ([] : List Int) = []) from ⟨rfl, rfl, rfl⟩)]
      clear hb z0c z1c z2c
      go_wp2_with fail
      go_ret
      exact ⟨rfl, B7.out⟩
  have h1 : encE ch sq xs.length = 0 ∧ encB ch sq xs = encL ch sq xs := ⟨if_neg ha, if_neg ha⟩
  rw [h1.1] at hE
  have := hE.nil; subst this
  rw [h1.2] at hc2 hC2 ⊢
  have HDF := Aside0.mk (And.intro (dec_of_enc ha) (dec_enc (dec_of_enc ha)))
  have HBX := Aside0.mk (bytes_enc HB.out ha)
  have HLX := Aside0.mk (show (encL ch sq xs).length ≤ 900000 by rw [encL_len]; omega)
  clear ha h1 hE
  generalize encL ch sq xs = X at hc2 hC2 HBX HLX HDF ⊢
  have C2 := Aside0.mk hC2
  have D2 := Aside0.mk hc2
  clear hc2 hC2
  go_wp2_with fail
  have hA := Decode_calls A2 c2 X w2 C2.out D2.out HLX.out HBX.out
  rw [HDF.out.1, HDF.out.2.1, HDF.out.2.2.1, HDF.out.2.2.2] at hA
  refine hA.mono ?_
  clear hA
  rintro e w3 ⟨v3, e3, rfl, hE, ⟨A3, c3, rfl, hc3, hC3⟩, hb⟩
  have := hE.nil; subst this
  have B3 := Aside0.mk (below_thenB B2.out hb B2.out.size)
  have HX3 := Aside0.mk (heap_below ⟨hb⟩ HX2.out)
  have C3 := Aside0.mk hC3
  have D3 := Aside0.mk hc3
  clear hE hb hC3 hc3 C2
  go_upto_region 7 with fail
  have hbX := below_alloc (Below.refl w3.heap.size w3) (.cells #[.int .i64 ch, .int .i64 sq, .slice A3 xs.length c3] 24)
  have HY := Aside0.mk (heap_new w3 (.cells #[.int .i64 ch, .int .i64 sq, .slice A3 xs.length c3] 24))
  obtain ⟨w4, hw4⟩ : ∃ w4, w4 = w3.alloc (.cells #[.int .i64 ch, .int .i64 sq, .slice A3 xs.length c3] 24) := ⟨_, rfl⟩
  rw [← hw4] at hbX HY ⊢
  have B4 := Aside0.mk (below_thenB B3.out hbX B3.out.size)
  have HX4 := Aside0.mk (heap_below ⟨hbX⟩ HX3.out)
  have C4 := Aside0.mk (Kd.C_below C3.out hbX)
  clear hw4 hbX HX3 C3
  have q0 : World.cell? w4 ⟨w.heap.size, 0, none⟩ = some (.int .i64 ch) := cell_of_heap HX4.out 0
  have q1 : World.cell? w4 ⟨w.heap.size, 1, none⟩ = some (.int .i64 sq) := cell_of_heap HX4.out 1
  have q2 : World.cell? w4 ⟨w.heap.size, 2, none⟩ = some (.slice A xs.length c) := cell_of_heap HX4.out 2
  have y0 : World.cell? w4 ⟨w3.heap.size, 0, none⟩ = some (.int .i64 ch) := cell_of_heap HY.out 0
  have y1 : World.cell? w4 ⟨w3.heap.size, 1, none⟩ = some (.int .i64 sq) := cell_of_heap HY.out 1
  have y2 : World.cell? w4 ⟨w3.heap.size, 2, none⟩ = some (.slice A3 xs.length c3) := cell_of_heap HY.out 2
  go_wp2_with fail
  refine (Same_calls ch sq A c xs ch sq A3 c3 xs w4 (Kd.C_below HC.out B4.out) hcc C4.out D3.out HB.out HB.out).mono ?_
  rintro e w4b ⟨rfl, hb⟩
  have B4b := Aside0.mk (below_thenB B4.out hb B4.out.size)
  rw [decide_eq_true (show (ch = ch ∧ sq = sq ∧ xs = xs) from ⟨rfl, rfl, rfl⟩)]
  clear hb q0 q1 q2 y0 y1 y2
  go_wp2_with fail
  refine (Decode_calls A' c' l w4b (Kd.C_below HC'.out B4b.out) hcc' (by omega) HB'.out).mono ?_
  rintro e w5 ⟨v5, e5, rfl, hE, ⟨A5, c5, rfl, hc5, hC5⟩, hb⟩
  have B5 := Aside0.mk (below_thenB B4b.out hb B4b.out.size)
  have C5 := Aside0.mk hC5
  have D5 := Aside0.mk hc5
  clear hb hC5 hc5
  by_cases hz : decE l = 0
  · have r := enc_back HB'.out hz
    have HED := Aside0.mk r
    rw [hz] at hE
    have := hE.nil; subst this
    clear r hz hE
    generalize decC l = z0 at HED ⊢
    generalize decQ l = z1 at HED ⊢
    generalize decD l = z2 at HED C5 D5 ⊢
    go_upto_region 10 with fail
    have hbX := below_alloc (Below.refl w5.heap.size w5) (.cells #[.int .i64 z0, .int .i64 z1, .slice A5 z2.length c5] 24)
    have HZ := Aside0.mk (heap_new w5 (.cells #[.int .i64 z0, .int .i64 z1, .slice A5 z2.length c5] 24))
    obtain ⟨w6, hw6⟩ : ∃ w6, w6 = w5.alloc (.cells #[.int .i64 z0, .int .i64 z1, .slice A5 z2.length c5] 24) := ⟨_, rfl⟩
    rw [← hw6] at hbX HZ ⊢
    have B6 := Aside0.mk (below_thenB B5.out hbX B5.out.size)
    have C6 := Aside0.mk (Kd.C_below C5.out hbX)
    clear hw6 hbX
    have z0c : World.cell? w6 ⟨w5.heap.size, 0, none⟩ = some (.int .i64 z0) := cell_of_heap HZ.out 0
    have z1c : World.cell? w6 ⟨w5.heap.size, 1, none⟩ = some (.int .i64 z1) := cell_of_heap HZ.out 1
    have z2c : World.cell? w6 ⟨w5.heap.size, 2, none⟩ = some (.slice A5 z2.length c5) := cell_of_heap HZ.out 2
    have HZL := Aside0.mk (show z2.length ≤ 300 by
      have h1 := congrArg List.length HED.out.2
      unfold encB at h1
      split at h1
      · rename_i hh; have h2 := HED.out.1; unfold encE at h2; rw [if_pos hh] at h2; exact absurd h2 (by decide)
      · rw [encL_len] at h1; omega)
    go_wp2_with fail
    refine (Encode_calls z0 z1 A5 c5 z2 w6 C6.out D5.out HZL.out).mono ?_
    rintro e w7 ⟨v7, e7, rfl, hE, hR, hb⟩
    rw [HED.out.1] at hE
    rw [HED.out.2] at hR
    have := hE.nil; subst this
    obtain ⟨A7, c7, rfl, -, hC7⟩ := Kd.R_reads hR
    have B7 := Aside0.mk (below_thenB B6.out hb B6.out.size)
    have hv1 : (convert 22 9 (.slice A7 l.length c7)).run Tryd.prog w7 = .ok (.string (strOfNums l)) w7 := Kd.C_string (P := Tryd.prog) (src := 22) (dst := 9) (e := 5) (c := c7) Tryd.underlying22 Tryd.underlying5 Tryd.underlying9 hC7
    have hv2 : (convert 22 9 (.slice A' l.length c')).run Tryd.prog w7 = .ok (.string (strOfNums l)) w7 := Kd.C_string (P := Tryd.prog) (src := 22) (dst := 9) (e := 5) (c := c') Tryd.underlying22 Tryd.underlying5 Tryd.underlying9 (Kd.C_below HC'.out B7.out)
    clear hb hE hR hC7 z0c z1c z2c
    go_wp2_with fail
    go_ret
    exact ⟨rfl, B7.out⟩
  · have r := dec_zero hz
    rw [r.2.2] at C5 D5 ⊢
    rw [r.1, r.2.1]
    have hP := hE.err hz
    obtain ⟨ty, y, rfl⟩ := hP.iface
    clear r hz hE hP
    go_upto_region 10 with fail
    have hbX := below_alloc (Below.refl w5.heap.size w5) (.cells #[.int .i64 0, .int .i64 0, .slice A5 0 c5] 24)
    have HZ := Aside0.mk (heap_new w5 (.cells #[.int .i64 0, .int .i64 0, .slice A5 0 c5] 24))
    obtain ⟨w6, hw6⟩ : ∃ w6, w6 = w5.alloc (.cells #[.int .i64 0, .int .i64 0, .slice A5 0 c5] 24) := ⟨_, rfl⟩
    rw [← hw6] at hbX HZ ⊢
    have B6 := Aside0.mk (below_thenB B5.out hbX B5.out.size)
    have C6 := Aside0.mk (Kd.C_below C5.out hbX)
    clear hw6 hbX
    have z0c : World.cell? w6 ⟨w5.heap.size, 0, none⟩ = some (.int .i64 0) := cell_of_heap HZ.out 0
    have z1c : World.cell? w6 ⟨w5.heap.size, 1, none⟩ = some (.int .i64 0) := cell_of_heap HZ.out 1
    have z2c : World.cell? w6 ⟨w5.heap.size, 2, none⟩ = some (.slice A5 0 c5) := cell_of_heap HZ.out 2
    go_wp2_with fail
    refine (Same_calls 0 0 A5 c5 [] 0 0 none 0 [] w6 C6.out D5.out (Kd.C_nil _ _) (Nat.le_refl _) (fun y hy => absurd hy (by simp)) (fun y hy => absurd hy (by simp))).mono ?_
    rintro e w7 ⟨rfl, hb⟩
    have B7 := Aside0.mk (below_thenB B6.out hb B6.out.size)
    rw [decide_eq_true (show ((0 : Int) = 0 ∧ (0 : Int) = 0 ∧ ([] : List Int) = []) from ⟨rfl, rfl, rfl⟩)]
    clear hb z0c z1c z2c
    go_wp2_with fail
    go_ret
    exact ⟨rfl, B7.out⟩
theorem fback_walk (ch sq : Int) (xs : List Int) (A : Option Addr) (c : Nat) (l : List Int) (A' : Option Addr) (c' : Nat) (w : World) (hC : Kd.C (Kd.int .u8) w A xs.length xs) (hcc : xs.length ≤ c) (hB : Bytes xs) (hC' : Kd.C (Kd.int .u8) w A' l.length l) (hcc' : l.length ≤ c') (hB' : Bytes l) (hg : Gerr w) : Calls Tryd.prog 4 #[.agg #[.int .i64 ch, .int .i64 sq, .slice A xs.length c], .slice A' l.length c'] w fun e w' => e = .returned (.bool true) ∧ Below w.heap.size w w' := fback_calls ch sq xs A c l A' c' w hC hcc hB hC' hcc' hB' hg
end Go.Proofs.YtnigocoanlaiiaaDoor.PE

