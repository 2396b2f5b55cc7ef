/- frame: FrameShort's walk. -/
import Derived.Test.YtnigocoanlaiiaaDoorHApart
namespace Go.Proofs.YtnigocoanlaiiaaDoor.PE
open Go.RowKit Go.Extern.Stop Go.Stop Go.Extern Go.Proofs.YtnigocoanlaiiaaDoorW.PrintWords Go.Proofs.YtnigocoanlaiiaaDoorW.PrintLast Go.Proofs.YtnigocoanlaiiaaDoorW.PrintMore
set_option linter.unusedVariables false
set_option linter.unusedSimpArgs false
theorem dec_len {l : List Int} (h : decE l = 0) : (decD l).length + 5 = l.length := by
  have hD : decD l = (openL l).drop 3 := by unfold decD; rw [if_pos h]
  unfold decE at h
  have hok : openOk l = true := by
    cases hk : openOk l with
    | true => rfl
    | false => rw [if_pos hk] at h; exact absurd h (by decide)
  rw [if_neg (by rw [hok]; decide)] at h
  have hf : ¬ formBad (openL l) := fun hf => by rw [if_pos hf] at h; exact absurd h (by decide)
  have hL : openL l = l.take (l.length - 2) := by unfold openL; rw [hok]; rfl
  have h2 : 2 ≤ l.length := by
    unfold openOk at hok
    exact of_decide_eq_true (Bool.and_eq_true_iff.1 hok).1
  have h3 : 3 ≤ (openL l).length := by unfold formBad at hf; omega
  rw [hD, List.length_drop]
  rw [hL, List.length_take] at h3 ⊢
  omega
theorem dec_enc {ch sq : Int} {xs : List Int} (h : decE (encL ch sq xs) = 0) : decC (encL ch sq xs) = ch ∧ decQ (encL ch sq xs) = sq ∧ decD (encL ch sq xs) = xs := by
  have hok : openOk (encL ch sq xs) = true := by
    cases hk : openOk (encL ch sq xs) with
    | true => rfl
    | false =>
      have h2 := h
      unfold decE at h2
      rw [if_pos hk] at h2; exact absurd h2 (by decide)
  have hL : openL (encL ch sq xs) = [ch, sq, (xs.length : Int)] ++ xs := by
    unfold openL
    rw [hok, if_pos rfl, encL_len]
    unfold encL sealL
    rw [List.take_append_of_le_length (by simp; omega), List.take_of_length_le (by simp; omega)]
  unfold decC decQ decD
  rw [if_pos h, if_pos h, if_pos h, hL]
  exact ⟨rfl, rfl, rfl⟩
set_option maxHeartbeats 16000000 in
set_option maxRecDepth 100000 in
theorem fshort_calls (ch sq : Int) (xs : List Int) (A : Option Addr) (c : Nat) (cut : Int) (mo : List Int) (A' : Option Addr) (c' : Nat) (w : World) (hC : Kd.C (Kd.int .u8) w A xs.length xs) (hcc : xs.length ≤ c) (hB : Bytes xs) (hC' : Kd.C (Kd.int .u8) w A' mo.length mo) (hcc' : mo.length ≤ c') (hB' : Bytes mo) (hg : Gerr w) : Calls Tryd.prog 6 #[.agg #[.int .i64 ch, .int .i64 sq, .slice A xs.length c], .int .i64 cut, .slice A' mo.length c'] w fun e w' => e = .returned (.bool true) ∧ Below w.heap.size w w' := by
  have B0 : Aside0 (Below w.heap.size w (w.alloc (.cells #[.int .i64 ch, .int .i64 sq, .slice A xs.length c] 24))) := balloc ⟨Below.refl _ _⟩ _
  have HX0 := Aside0.mk (heap_new w (.cells #[.int .i64 ch, .int .i64 sq, .slice A xs.length c] 24))
  have HG := Aside0.mk (hg.below B0)
  have HC := Aside0.mk hC
  have HC' := Aside0.mk hC'
  have HB := Aside0.mk hB
  have HB' := Aside0.mk hB'
  clear hg hC hC' hB hB'
  by_cases h3 : 300 < (xs.length : Int)
  · have dh3 : decide (300 < (xs.length : Int)) = true := decide_eq_true h3
    go_enter Tryd.func6, Tryd.ntmps6
    go_wp2_with fail
    refine (small_calls _ HG.out).mono ?_
    rintro e w1 ⟨rfl, hb⟩
    have B1 := Aside0.mk (below_thenB B0.out hb B0.out.size)
    have HX1 := Aside0.mk (heap_below ⟨hb⟩ HX0.out)
    have q0 : World.cell? w1 ⟨w.heap.size, 0, none⟩ = some (.int .i64 ch) := cell_of_heap HX1.out 0
    have q1 : World.cell? w1 ⟨w.heap.size, 1, none⟩ = some (.int .i64 sq) := cell_of_heap HX1.out 1
    have q2 : World.cell? w1 ⟨w.heap.size, 2, none⟩ = some (.slice A xs.length c) := cell_of_heap HX1.out 2
    clear hb
    go_wp2_with fail
    go_ret
    exact ⟨rfl, B1.out⟩
  have dh3 : decide (300 < (xs.length : Int)) = false := decide_eq_false h3
  by_cases h4 : 50 < (mo.length : Int)
  · have dh4 : decide (50 < (mo.length : Int)) = true := decide_eq_true h4
    go_enter Tryd.func6, Tryd.ntmps6
    go_wp2_with fail
    refine (small_calls _ HG.out).mono ?_
    rintro e w1 ⟨rfl, hb⟩
    have B1 := Aside0.mk (below_thenB B0.out hb B0.out.size)
    have HX1 := Aside0.mk (heap_below ⟨hb⟩ HX0.out)
    have q0 : World.cell? w1 ⟨w.heap.size, 0, none⟩ = some (.int .i64 ch) := cell_of_heap HX1.out 0
    have q1 : World.cell? w1 ⟨w.heap.size, 1, none⟩ = some (.int .i64 sq) := cell_of_heap HX1.out 1
    have q2 : World.cell? w1 ⟨w.heap.size, 2, none⟩ = some (.slice A xs.length c) := cell_of_heap HX1.out 2
    clear hb
    go_wp2_with fail
    go_ret
    exact ⟨rfl, B1.out⟩
  have dh4 : decide (50 < (mo.length : Int)) = false := decide_eq_false h4
  have hx3 : xs.length ≤ 300 := by omega
  have hx4 : mo.length ≤ 50 := by omega
  go_enter Tryd.func6, Tryd.ntmps6
  go_wp2_with fail
  refine (small_calls _ HG.out).mono ?_
  rintro e w1 ⟨rfl, hb⟩
  have B1 := Aside0.mk (below_thenB B0.out hb B0.out.size)
  have HX1 := Aside0.mk (heap_below ⟨hb⟩ HX0.out)
  have q0 : World.cell? w1 ⟨w.heap.size, 0, none⟩ = some (.int .i64 ch) := cell_of_heap HX1.out 0
  have q1 : World.cell? w1 ⟨w.heap.size, 1, none⟩ = some (.int .i64 sq) := cell_of_heap HX1.out 1
  have q2 : World.cell? w1 ⟨w.heap.size, 2, none⟩ = some (.slice A xs.length c) := cell_of_heap HX1.out 2
  clear hb
  go_wp2_with fail
  clear q0 q1 q2
  refine (Encode_calls ch sq A c xs w1 (Kd.C_below HC.out B1.out) hcc hx3).mono ?_
  rintro e w2 ⟨v2, e2, rfl, hE, hR, hb⟩
  have B2 := Aside0.mk (below_thenB B1.out hb B1.out.size)
  have HX2 := Aside0.mk (heap_below ⟨hb⟩ HX1.out)
  obtain ⟨A2, c2, rfl, hc2, hC2⟩ := Kd.R_reads hR
  clear hb hR
  by_cases ha : argF ch sq xs.length
  · have h1 : encE ch sq xs.length = 1 := if_pos ha
    rw [h1] at hE
    obtain ⟨ty, y, rfl⟩ := (hE.err (by decide)).iface
    generalize (encB ch sq xs).length = m2
    clear hE h1 ha hc2 hC2
    go_wp2_with fail
    go_ret
    exact ⟨rfl, B2.out⟩
  have h1 : encE ch sq xs.length = 0 ∧ encB ch sq xs = encL ch sq xs := ⟨if_neg ha, if_neg ha⟩
  rw [h1.1] at hE
  have := hE.nil; subst this
  rw [h1.2] at hc2 hC2 ⊢
  have HBX := Aside0.mk (bytes_enc HB.out ha)
  have HLX := Aside0.mk (encL_len ch sq xs)
  have HDE := Aside0.mk (@dec_enc ch sq xs)
  clear ha h1 hE
  generalize encL ch sq xs = X at hc2 hC2 HBX HLX HDE ⊢
  have hlx : X.length = 5 + xs.length := HLX.out
  have C2 := Aside0.mk hC2
  have D2 := Aside0.mk hc2
  clear hc2 hC2
  by_cases hk : cut < 0
  · have dk : decide (cut < 0) = true := decide_eq_true hk
    go_wp2_with fail
    go_ret
    exact ⟨rfl, B2.out⟩
  have dk : decide (cut < 0) = false := decide_eq_false hk
  by_cases hk2 : (X.length : Int) ≤ cut
  · have dk2 : decide ((X.length : Int) ≤ cut) = true := decide_eq_true hk2
    go_wp2_with fail
    go_ret
    exact ⟨rfl, B2.out⟩
  have dk2 : decide ((X.length : Int) ≤ cut) = false := decide_eq_false hk2
  obtain ⟨i0, hi0, _, hsz, _⟩ := info_parts info5
  obtain ⟨hcut, hA, hC3⟩ := print_take_of (P := Tryd.prog) (Value.int .u8) 0 22 5 .i64 Tryd.underlying22 hi0 hsz A2 c2 X cut (by omega) (by omega) D2.out
  have HT := Aside0.mk (Kd.C_of_reads (h1 := fun _ => rfl) (hA w2 (Kd.reads_of_C C2.out)))
  have HC3 := Aside0.mk hC3
  have htl : (X.take cut.toNat).length = cut.toNat := by rw [List.length_take]; omega
  have HTL := Aside0.mk htl
  have HBT := Aside0.mk (show Bytes (X.take cut.toNat) from fun y hy => HBX.out y (List.mem_of_mem_take hy))
  have HCT := Aside0.mk (show cut.toNat < 5 + xs.length ∧ cut.toNat ≤ 400 by omega)
  rw [htl] at hcut
  have HX400 := Aside0.mk (show X.length + mo.length ≤ 400 by omega)
  clear hi0 hsz hA hC3 htl hlx
  go_wp2_with fail
  clear hcut
  have hA := Decode_calls A2 c2 (X.take cut.toNat) w2 HT.out HC3.out (by rw [HTL.out]; have := HCT.out; omega) HBT.out
  have HL3 := Aside0.mk (@dec_len (X.take cut.toNat))
  rw [HTL.out] at hA HL3
  refine hA.mono ?_
  clear hA
  rintro e w3 ⟨v3, e3, rfl, hE, ⟨A3, c3, rfl, hc3, hC3⟩, hb⟩
  have B3 := Aside0.mk (below_thenB B2.out hb B2.out.size)
  have HX3 := Aside0.mk (heap_below ⟨hb⟩ HX2.out)
  have C2b := Aside0.mk (Kd.C_below C2.out hb)
  have C3 := Aside0.mk hC3
  have D3 := Aside0.mk hc3
  have E3 := Aside0.mk hE
  have HD3 : Aside0 (Bytes (decD (X.take cut.toNat))) := ⟨by
    unfold decD
    split
    · exact fun y hy => bytes_open HBT.out y (List.mem_of_mem_drop hy)
    · exact fun y hy => absurd hy (by simp)⟩
  clear hE hb hC3 hc3 HT HC3 C2
  generalize decC (X.take cut.toNat) = p0
  generalize decQ (X.take cut.toNat) = p1
  generalize decD (X.take cut.toNat) = p2 at HL3 C3 D3 HD3 ⊢
  generalize decE (X.take cut.toNat) = pe at HL3 E3
  go_upto_region 8 with fail
  have hbX := below_alloc (Below.refl w3.heap.size w3) (.cells #[.int .i64 p0, .int .i64 p1, .slice A3 p2.length c3] 24)
  have HY4 := Aside0.mk (heap_new w3 (.cells #[.int .i64 p0, .int .i64 p1, .slice A3 p2.length c3] 24))
  obtain ⟨w4, hw4⟩ : ∃ w4, w4 = w3.alloc (.cells #[.int .i64 p0, .int .i64 p1, .slice A3 p2.length c3] 24) := ⟨_, rfl⟩
  rw [← hw4] at hbX HY4 ⊢
  have B4 := Aside0.mk (below_thenB B3.out hbX B3.out.size)
  have HX4 := Aside0.mk (heap_below ⟨hbX⟩ HX3.out)
  have C2c := Aside0.mk (Kd.C_below C2b.out hbX)
  have C3b := Aside0.mk (Kd.C_below C3.out hbX)
  have E4 := Aside0.mk (E3.out.below ⟨hbX⟩)
  clear hw4 hbX C2b C3 E3 HX3
  have info5 := info5
  go_wp2_with ((with_reducible refine gate_builtin (b := .append) (xs := #[.tmp 51, .tmp 52]) rfl ?_); at_builtin; refine Kd.R_append_rows (Kd.int .u8) (w0 := w4) w4.heap.size rfl (.tmp 51) (.tmp 52) 22 5 (.int .u8 0) 1 rfl Tryd.underlying22 info5 rfl (by decide) (by omega) (.slice (some ⟨w4.heap.size, 0, none⟩) 0 0) [] X A2 X.length c2 (fun _ => True) (fun _ => False) rfl rfl ?aO ?aR (fun _ _ h => h) (fun _ h => h.elim) (fun _ _ => trivial) ?aB ?aS ?aL ?_)
  case aO => exact R_empty w4
  case aR => exact Kd.C_alloc C2c.out _
  case aB => exact below_alloc (Below.refl _ _) _
  try case aS => simp
  case aL => have := HX400.out; simp; omega
  intro v5 w5 ho hb5 hg5 hat5
  obtain ⟨A5, c5, rfl, -, -⟩ := Kd.R_reads ho
  have R5 : Aside0 (Kd.R (Kd.int .u8) 5 w5 w4.heap.size (fun _ => True) (.slice A5 X.length c5) X) := ⟨by simpa using ho⟩
  have B45 := Aside0.mk hb5
  clear ho hb5 hg5 hat5
  go_wp2_with ((with_reducible refine gate_builtin (b := .append) (xs := #[.tmp 53, .tmp 54]) rfl ?_); at_builtin; refine Kd.R_append_rows (Kd.int .u8) (w0 := w4) w4.heap.size rfl (.tmp 53) (.tmp 54) 22 5 (.int .u8 0) 1 rfl Tryd.underlying22 info5 rfl (by decide) (by omega) (.slice A5 X.length c5) X mo A' mo.length c' (fun _ => True) (fun _ => False) rfl rfl ?bO ?bR (fun _ _ h => h) (fun _ h => h.elim) (fun _ _ => trivial) ?bB ?bS ?bL ?_)
  case bO => first | exact R5.out | exact Kd.R_drew R5.out
  case bR => first | exact Kd.C_below HC'.out (below_thenB B4.out B45.out B4.out.size) | exact Kd.C_drew (Kd.C_below HC'.out (below_thenB B4.out B45.out B4.out.size))
  case bB => first | exact B45.out | exact below_drew B45.out
  try case bS => exact B45.out.size
  case bL => have := HX400.out; omega
  intro v6 w6 ho hb6 hg6 hat6
  obtain ⟨A6, c6, rfl, hc6, hC6⟩ := Kd.R_reads ho
  have B6 := Aside0.mk (below_thenB B4.out hb6 B4.out.size)
  have HX6 := Aside0.mk (heap_below ⟨hb6⟩ HX4.out)
  have HY6 := Aside0.mk (heap_below ⟨hb6⟩ HY4.out)
  have C3c := Aside0.mk (Kd.C_below C3b.out hb6)
  have E6 := Aside0.mk (E4.out.below ⟨hb6⟩)
  have C6 := Aside0.mk hC6
  have D6 := Aside0.mk hc6
  have HAL := Aside0.mk (show (X ++ mo).length = 5 + xs.length + mo.length by rw [List.length_append, HLX.out])
  have HBA := Aside0.mk (show Bytes (X ++ mo) from fun y hy => (List.mem_append.1 hy).elim (HBX.out y) (HB'.out y))
  have HAP := Aside0.mk (show mo.length = 0 → X ++ mo = X from fun h => by rw [List.eq_nil_of_length_eq_zero h, List.append_nil])
  clear ho hb6 hg6 hat6 hC6 hc6 R5 C3b E4 HX4 HY4 C2c
  generalize X ++ mo = Z at C6 D6 HAL HBA HAP ⊢
  have HZ400 := Aside0.mk (show Z.length ≤ 900000 by have := HAL.out; omega)
  go_wp2_with fail
  refine (Decode_calls A6 c6 Z w6 C6.out D6.out HZ400.out HBA.out).mono ?_
  rintro e w7 ⟨v7, e7, rfl, hE, ⟨A7, c7, rfl, hc7, hC7⟩, hb⟩
  have B7 := Aside0.mk (below_thenB B6.out hb B6.out.size)
  have HX7 := Aside0.mk (heap_below ⟨hb⟩ HX6.out)
  have HY7 := Aside0.mk (heap_below ⟨hb⟩ HY6.out)
  have C3d := Aside0.mk (Kd.C_below C3c.out hb)
  have E6b := Aside0.mk (E6.out.below ⟨hb⟩)
  have C7 := Aside0.mk hC7
  have D7 := Aside0.mk hc7
  have F7 := Aside0.mk hE
  have HL7 := Aside0.mk (@dec_len Z)
  have HSAME : Aside0 (decE Z = 0 → decide (decC Z = ch ∧ decQ Z = sq ∧ decD Z = xs) = decide ((mo.length : Int) = 0)) := ⟨fun hz => by
    by_cases hm : mo.length = 0
    · have e := HAP.out hm
      rw [e] at hz ⊢
      rw [decide_eq_true (HDE.out hz), decide_eq_true (by omega)]
    · have hl := HL7.out hz
      rw [HAL.out] at hl
      rw [decide_eq_false (fun h => by rw [h.2.2] at hl; omega), decide_eq_false (by omega)]⟩
  have HD7 : Aside0 (Bytes (decD Z)) := ⟨by
    unfold decD
    split
    · exact fun y hy => bytes_open HBA.out y (List.mem_of_mem_drop hy)
    · exact fun y hy => absurd hy (by simp)⟩
  clear hE hb hC7 hc7 C3c E6 HX6 HY6 C6 D6 HDE
  generalize decC Z = z0 at HSAME ⊢
  generalize decQ Z = z1 at HSAME ⊢
  generalize decD Z = z2 at HSAME HL7 C7 D7 HD7 ⊢
  generalize decE Z = ze at HSAME HL7 F7
  go_upto_region 9 with fail
  have hbX := below_alloc (Below.refl w7.heap.size w7) (.cells #[.int .i64 z0, .int .i64 z1, .slice A7 z2.length c7] 24)
  have HZ8 := Aside0.mk (heap_new w7 (.cells #[.int .i64 z0, .int .i64 z1, .slice A7 z2.length c7] 24))
  obtain ⟨w8, hw8⟩ : ∃ w8, w8 = w7.alloc (.cells #[.int .i64 z0, .int .i64 z1, .slice A7 z2.length c7] 24) := ⟨_, rfl⟩
  rw [← hw8] at hbX HZ8 ⊢
  have B8 := Aside0.mk (below_thenB B7.out hbX B7.out.size)
  have HX8 := Aside0.mk (heap_below ⟨hbX⟩ HX7.out)
  have HY8 := Aside0.mk (heap_below ⟨hbX⟩ HY7.out)
  have C3e := Aside0.mk (Kd.C_below C3d.out hbX)
  have C7b := Aside0.mk (Kd.C_below C7.out hbX)
  have E8 := Aside0.mk (E6b.out.below ⟨hbX⟩)
  have F8 := Aside0.mk (F7.out.below ⟨hbX⟩)
  clear hw8 hbX C3d C7 E6b F7 HX7 HY7
  have q08 : World.cell? w8 ⟨w.heap.size, 0, none⟩ = some (.int .i64 ch) := cell_of_heap HX8.out 0
  have q18 : World.cell? w8 ⟨w.heap.size, 1, none⟩ = some (.int .i64 sq) := cell_of_heap HX8.out 1
  have q28 : World.cell? w8 ⟨w.heap.size, 2, none⟩ = some (.slice A xs.length c) := cell_of_heap HX8.out 2
  have y08 : World.cell? w8 ⟨w3.heap.size, 0, none⟩ = some (.int .i64 p0) := cell_of_heap HY8.out 0
  have y18 : World.cell? w8 ⟨w3.heap.size, 1, none⟩ = some (.int .i64 p1) := cell_of_heap HY8.out 1
  have y28 : World.cell? w8 ⟨w3.heap.size, 2, none⟩ = some (.slice A3 p2.length c3) := cell_of_heap HY8.out 2
  have z08 : World.cell? w8 ⟨w7.heap.size, 0, none⟩ = some (.int .i64 z0) := cell_of_heap HZ8.out 0
  have z18 : World.cell? w8 ⟨w7.heap.size, 1, none⟩ = some (.int .i64 z1) := cell_of_heap HZ8.out 1
  have z28 : World.cell? w8 ⟨w7.heap.size, 2, none⟩ = some (.slice A7 z2.length c7) := cell_of_heap HZ8.out 2
  rcases E8.out with ⟨hpe, rfl⟩ | ⟨hpe, hP⟩
  · have hl3 := HL3.out hpe
    have hns : decide (p0 = ch ∧ p1 = sq ∧ p2 = xs) = false := decide_eq_false (fun h => by rw [h.2.2] at hl3; have := HCT.out; omega)
    clear hpe hl3
    go_wp2_with fail
    refine (Same_calls p0 p1 A3 c3 p2 ch sq A c xs w8 C3e.out D3.out (Kd.C_below HC.out B8.out) hcc HD3.out HB.out).mono ?_
    rintro e w9 ⟨rfl, hb⟩
    rw [hns]
    have B9 := Aside0.mk (below_thenB B8.out hb B8.out.size)
    have HX9 := Aside0.mk (heap_below ⟨hb⟩ HX8.out)
    have HY9 := Aside0.mk (heap_below ⟨hb⟩ HY8.out)
    have HZ9 := Aside0.mk (heap_below ⟨hb⟩ HZ8.out)
    have C7c := Aside0.mk (Kd.C_below C7b.out hb)
    have F9 := Aside0.mk (F8.out.below ⟨hb⟩)
    clear hb hns
    clear q08 q18 q28 y08 y18 y28 z08 z18 z28
    have q09 : World.cell? w9 ⟨w.heap.size, 0, none⟩ = some (.int .i64 ch) := cell_of_heap HX9.out 0
    have q19 : World.cell? w9 ⟨w.heap.size, 1, none⟩ = some (.int .i64 sq) := cell_of_heap HX9.out 1
    have q29 : World.cell? w9 ⟨w.heap.size, 2, none⟩ = some (.slice A xs.length c) := cell_of_heap HX9.out 2
    have y09 : World.cell? w9 ⟨w3.heap.size, 0, none⟩ = some (.int .i64 p0) := cell_of_heap HY9.out 0
    have y19 : World.cell? w9 ⟨w3.heap.size, 1, none⟩ = some (.int .i64 p1) := cell_of_heap HY9.out 1
    have y29 : World.cell? w9 ⟨w3.heap.size, 2, none⟩ = some (.slice A3 p2.length c3) := cell_of_heap HY9.out 2
    have z09 : World.cell? w9 ⟨w7.heap.size, 0, none⟩ = some (.int .i64 z0) := cell_of_heap HZ9.out 0
    have z19 : World.cell? w9 ⟨w7.heap.size, 1, none⟩ = some (.int .i64 z1) := cell_of_heap HZ9.out 1
    have z29 : World.cell? w9 ⟨w7.heap.size, 2, none⟩ = some (.slice A7 z2.length c7) := cell_of_heap HZ9.out 2
    rcases F9.out with ⟨hze, rfl⟩ | ⟨hze, hP⟩
    · have hsm := HSAME.out hze
      have hfin : (decide (z0 = ch ∧ z1 = sq ∧ z2 = xs) == decide ((mo.length : Int) = 0)) = true := by rw [hsm]; simp
      clear hze hsm
      go_wp2_with fail
      refine (Same_calls z0 z1 A7 c7 z2 ch sq A c xs w9 C7c.out D7.out (Kd.C_below HC.out B9.out) hcc HD7.out HB.out).mono ?_
      rintro e w10 ⟨rfl, hb⟩
      have B10 := Aside0.mk (below_thenB B9.out hb B9.out.size)
      clear hb
      generalize decide (z0 = ch ∧ z1 = sq ∧ z2 = xs) = bz at hfin ⊢
      have hfin2 : (bz == ((mo.length : Int) == 0)) = true := by
        have e : decide ((mo.length : Int) = 0) = ((mo.length : Int) == 0) := rfl
        rw [← e]; exact hfin
      clear hfin
      go_wp2_with fail
      go_ret
      exact ⟨rfl, B10.out⟩
    · obtain ⟨ty, y, rfl⟩ := hP.iface
      clear hze hP
      go_wp2_with fail
      go_ret
      exact ⟨rfl, B9.out⟩
  · obtain ⟨tx, x, rfl⟩ := hP.iface
    clear hpe hP
    rcases F8.out with ⟨hze, rfl⟩ | ⟨hze, hP⟩
    · have hsm := HSAME.out hze
      have hfin : (decide (z0 = ch ∧ z1 = sq ∧ z2 = xs) == decide ((mo.length : Int) = 0)) = true := by rw [hsm]; simp
      clear hze hsm
      go_wp2_with fail
      refine (Same_calls z0 z1 A7 c7 z2 ch sq A c xs w8 C7b.out D7.out (Kd.C_below HC.out B8.out) hcc HD7.out HB.out).mono ?_
      rintro e w10 ⟨rfl, hb⟩
      have B10 := Aside0.mk (below_thenB B8.out hb B8.out.size)
      clear hb
      generalize decide (z0 = ch ∧ z1 = sq ∧ z2 = xs) = bz at hfin ⊢
      have hfin2 : (bz == ((mo.length : Int) == 0)) = true := by
        have e : decide ((mo.length : Int) = 0) = ((mo.length : Int) == 0) := rfl
        rw [← e]; exact hfin
      clear hfin
      go_wp2_with fail
      go_ret
      exact ⟨rfl, B10.out⟩
    · obtain ⟨ty, y, rfl⟩ := hP.iface
      clear hze hP
      go_wp2_with fail
      go_ret
      exact ⟨rfl, B8.out⟩
theorem fshort_walk (ch sq : Int) (xs : List Int) (A : Option Addr) (c : Nat) (cut : Int) (mo : List Int) (A' : Option Addr) (c' : Nat) (w : World) (hC : Kd.C (Kd.int .u8) w A xs.length xs) (hcc : xs.length ≤ c) (hB : Bytes xs) (_ : (Lit.int .i64 cut).wf = true) (hC' : Kd.C (Kd.int .u8) w A' mo.length mo) (hcc' : mo.length ≤ c') (hB' : Bytes mo) (hg : Gerr w) : Calls Tryd.prog 6 #[.agg #[.int .i64 ch, .int .i64 sq, .slice A xs.length c], .int .i64 cut, .slice A' mo.length c'] w fun e w' => e = .returned (.bool true) ∧ Below w.heap.size w w' := fshort_calls ch sq xs A c cut mo A' c' w hC hcc hB hC' hcc' hB' hg
end Go.Proofs.YtnigocoanlaiiaaDoor.PE

