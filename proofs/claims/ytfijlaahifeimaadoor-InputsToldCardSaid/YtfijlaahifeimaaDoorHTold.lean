/- inputs: InputsTold' walk. -/
import Derived.Test.YtfijlaahifeimaaDoorMN
import Derived.Test.YtfijlaahifeimaaDoorPSx11
namespace Go.Proofs.YtfijlaahifeimaaDoor.PE
open Go.RowKit Go.Extern.Stop Go.Stop Go.Extern Go.Proofs.YtfijlaahifeimaaDoorW.PrintWords Go.Proofs.YtfijlaahifeimaaDoorW.PrintLast Go.Proofs.YtfijlaahifeimaaDoorW.PrintMore Go.Proofs.YtfijlaahifeimaaDoor.PS
set_option linter.unusedVariables false
set_option linter.unusedSimpArgs false
theorem may_is (r : Int) (t : Nat) (h : (r / 2 ^ t == 0) = true) : 0 ≤ r ∧ r < 2 ^ t := by
  have h0 : r / 2 ^ t = 0 := by simpa using h
  have hp : (0 : Int) < 2 ^ t := Int.pow_pos (by decide)
  have h1 := Int.emod_nonneg r (Int.ne_of_gt hp)
  have h2 := Int.emod_lt_of_pos r hp
  have h3 := Int.mul_ediv_add_emod r (2 ^ t)
  rw [h0, Int.mul_zero] at h3
  omega
set_option maxHeartbeats 16000000 in
set_option maxRecDepth 100000 in
theorem itold_calls0 (i : Inp) (A : Option Addr) (c : Nat) (s : Int) (w : World) (hC : Kd.C k48 w A i.tracks.length i.tracks) (hcc : i.tracks.length ≤ c) (hg : Gerr w) (ht : 1 ≤ i.tracks.length ∧ i.tracks.length ≤ 8) : Calls Tryd.prog 7 #[i.val (.slice A i.tracks.length c), .int .i64 s] w fun e w' => e = .returned (.bool true) ∧ Below w.heap.size w w' := by
  have HC := Aside0.mk hC
  have HCC := Aside0.mk hcc
  have HG := Aside0.mk hg
  have HC0 := Aside0.mk hC
  have HT8 := Aside0.mk ht
  have d1 : decide ((i.tracks.length : Int) < 1) = false := decide_eq_false (by omega)
  have d2 : decide ((8 : Int) < (i.tracks.length : Int)) = false := decide_eq_false (by omega)
  clear hC hcc hg ht
  unfold Inp.val
  go_enter Tryd.func7, Tryd.ntmps7
  go_wp2_with fail
  obtain ⟨w0, hw0⟩ : ∃ w0, w0 = w.alloc (.cells #[.bool i.b0, .bool i.b1, .bool i.b2, .bool i.b3, .bool i.sure, .bool i.lamps, .bool i.obst, .int .i64 i.mode, .bool i.mains, .bool i.batt, .int .i64 i.routes, .slice A i.tracks.length c] 36) := ⟨_, rfl⟩
  have hb0 : Below w.heap.size w w0 := by rw [hw0]; exact below_alloc (Below.refl _ _) _
  have HX0 : w0.heap[w.heap.size]? = some (.cells #[.bool i.b0, .bool i.b1, .bool i.b2, .bool i.b3, .bool i.sure, .bool i.lamps, .bool i.obst, .int .i64 i.mode, .bool i.mains, .bool i.batt, .int .i64 i.routes, .slice A i.tracks.length c] 36 (0, 0)) := by rw [hw0]; exact heap_new _ _
  rw [← hw0]
  refine (small_calls w0 (HG.out.below ⟨hb0⟩)).mono ?_
  rintro e w1 ⟨rfl, hb⟩
  have B1 := Aside0.mk (below_thenB hb0 hb hb0.size)
  have HX1 := Aside0.mk (heap_below ⟨hb⟩ HX0)
  have C1 := Aside0.mk (Kd.C_below HC.out B1.out)
  clear hw0 hb0 HX0 hb HC
  have q11 : World.cell? w1 ⟨w.heap.size, 11, none⟩ = some (.slice A i.tracks.length c) := cell_of_heap HX1.out 11
  go_wp2_with fail
  refine (INew_calls (i.tracks.length : Int) 3 w1).mono ?_
  rintro e w2 ⟨x, gx, rfl, hI, hx, hgx, hb⟩
  have e1 : max 1 (min (3 : Int) 6000) = 3 := by decide
  have e2 : trk (i.tracks.length : Int) = i.tracks.length := by have := HT8.out; unfold trk; omega
  rw [e1, e2] at hI
  have I2 := Aside0.mk hI
  have B2 := Aside0.mk (below_thenB B1.out hb B1.out.size)
  have HX2 := Aside0.mk (heap_below ⟨hb⟩ HX1.out)
  have C2 := Aside0.mk (Kd.C_below C1.out hb)
  have HW := Aside0.mk (show w.heap.size < x ∧ w.heap.size < gx ∧ x < w2.heap.size ∧ gx < w2.heap.size from ⟨Nat.lt_of_lt_of_le (heap_lt HX1.out) hx, Nat.lt_of_lt_of_le (heap_lt HX1.out) hgx, heap_lt hI.obj, hI.lk.lt⟩)
  clear hI hx hgx hb e1 e2 B1 HX1 C1 q11 d1 d2
  go_wp2_with fail
  go_loopw [7, 8, 9] (fun v m ch W => ∃ k : Nat, k ≤ 8 + i.tracks.length ∧ ch = .int .i64 k ∧ m = .int .i64 ((rowsB i s k).length : Nat) ∧ Aside0 (Kd.R (Kd.slice 5 (Kd.int .u8)) 44 W w2.heap.size (fun j => w2.heap.size ≤ j) v (rowsB i s k)) ∧ Aside0 (Below w2.heap.size w2 W)) (fun _ _ ch _ => 8 + i.tracks.length - (intOf ch).toNat)
  case atStart => exact ⟨0, by omega, rfl, rfl, ⟨Kd.R_nil _ _ _ _ _⟩, ⟨Below.refl _ _⟩⟩
  case round =>
    obtain ⟨k, hk, rfl, rfl, RL, BR⟩ := hrel
    have HXr := Aside0.mk (heap_below BR HX2.out)
    have h8 : (i.tracks.length : Int) ≤ 8 := by have := HT8.out; omega
    have h0 : (0 : Int) ≤ (i.tracks.length : Int) := by omega
    have q0 : World.cell? wr ⟨w.heap.size, 0, none⟩ = some (.bool i.b0) := cell_of_heap HXr.out 0
    have q1 : World.cell? wr ⟨w.heap.size, 1, none⟩ = some (.bool i.b1) := cell_of_heap HXr.out 1
    have q2 : World.cell? wr ⟨w.heap.size, 2, none⟩ = some (.bool i.b2) := cell_of_heap HXr.out 2
    have q3 : World.cell? wr ⟨w.heap.size, 3, none⟩ = some (.bool i.b3) := cell_of_heap HXr.out 3
    have q4 : World.cell? wr ⟨w.heap.size, 4, none⟩ = some (.bool i.sure) := cell_of_heap HXr.out 4
    have q5 : World.cell? wr ⟨w.heap.size, 5, none⟩ = some (.bool i.lamps) := cell_of_heap HXr.out 5
    have q6 : World.cell? wr ⟨w.heap.size, 6, none⟩ = some (.bool i.obst) := cell_of_heap HXr.out 6
    have q7 : World.cell? wr ⟨w.heap.size, 7, none⟩ = some (.int .i64 i.mode) := cell_of_heap HXr.out 7
    have q8 : World.cell? wr ⟨w.heap.size, 8, none⟩ = some (.bool i.mains) := cell_of_heap HXr.out 8
    have q9 : World.cell? wr ⟨w.heap.size, 9, none⟩ = some (.bool i.batt) := cell_of_heap HXr.out 9
    have q10 : World.cell? wr ⟨w.heap.size, 10, none⟩ = some (.int .i64 i.routes) := cell_of_heap HXr.out 10
    have q11 : World.cell? wr ⟨w.heap.size, 11, none⟩ = some (.slice A i.tracks.length c) := cell_of_heap HXr.out 11
    by_cases hlt : (k : Int) < 8 + (i.tracks.length : Int)
    · have dk : decide ((k : Int) < 8 + (i.tracks.length : Int)) = true := decide_eq_true hlt
      have HLT := Aside0.mk hlt
      have hk16 : k < 16 := by omega
      have HBS := Aside0.mk (bB_small i k)
      have HK16 := Aside0.mk hk16
      have HRL := Aside0.mk (rowsB_len i s k)
      have CR := Aside0.mk (Kd.C_below C2.out BR.out)
      have HPR : Aside0 (i.prt (k : Int) = some (bB i k)) := ⟨prt_is i k (by omega) HT8.out.2⟩
      have HSC : Aside0 (rowsB i s (k + 1) = if 0 < (bB i k).length then rowsB i s k ++ [encB (k : Int) (s % 256) (bB i k)] else rowsB i s k) := ⟨rfl⟩
      clear hlt hk
      go_wp2_with fail
      refine (sensor_Print.calls 9 i.b0 i.b1 i.b2 i.b3 i.sure i.lamps i.obst i.mode i.mains i.batt i.routes A c i.tracks (k : Int) (bB i k) wr CR.out HCC.out HPR.out).mono ?_
      rintro e w3 ⟨v3, rfl, hR, hb⟩
      obtain ⟨A3, c3, rfl, hc3, hC3⟩ := Kd.R_reads hR
      have B3 := Aside0.mk hb
      have C3 := Aside0.mk (And.intro hc3 hC3)
      clear hR hb hc3 hC3 q0 q1 q2 q3 q4 q5 q6 q7 q8 q9 q10 q11
      generalize bB i k = b at HBS HSC C3
      by_cases hp : 0 < b.length
      · have dp : decide (0 < b.length) = true := decide_eq_true hp
        have HSP : Aside0 (rowsB i s (k + 1) = rowsB i s k ++ [encB (k : Int) (s % 256) b]) := ⟨HSC.out.trans (if_pos (by omega))⟩
        clear hp HSC
        go_wp2_with fail
        refine (Tele_calls (k : Int) s A3 c3 b w3 C3.out.2 C3.out.1 (by have := HBS.out.1; omega)).mono ?_
        rintro e w4 ⟨v4, rfl, hR, hb⟩
        have R4 := Aside0.mk hR
        have B4 := Aside0.mk hb
        have B24 := Aside0.mk (below_thenB (below_thenB BR.out B3.out BR.out.size) hb (Nat.le_trans BR.out.size B3.out.size))
        have HV := Aside0.mk (Kd.R_lt RL.out)
        have S3 := Aside0.mk B3.out.size
        have S23 := Aside0.mk (Nat.le_trans BR.out.size B3.out.size)
        have R44 := Aside0.mk (Kd.R_below (Kd.R_below RL.out B3.out) hb)
        clear hR hb
        generalize encB (k : Int) (s % 256) b = EB at R4 HSP
        obtain ⟨A4, c4, rfl, -, -⟩ := Kd.R_reads R4.out
        go_wp2_with ((with_reducible refine gate_builtin (b := .append) (xs := #[.tmp 45, .tmp 50]) rfl ?_); at_builtin; refine Kd.R_append (Kd.slice 5 (Kd.int .u8)) (w0 := w2) w2.heap.size rfl (.tmp 45) (.tmp 50) 30 44 (.slice none 0 0) 24 rfl Tryd.underlying30 info44 rfl (by decide) (by decide) _ (rowsB i s k) EB [.slice A4 EB.length c4] (fun j => w2.heap.size ≤ j) (fun j => w3.heap.size ≤ j) rfl rfl ?aM ?aK ?aF R44.out B24.out B24.out.size ?aL ?_)
        case aM => exact Kd.M_row (Kd.R_mono (Kd.R_lower (Kd.R_bound R4.out) S23.out) (fun _ hk => hk.2.1))
        case aK => exact fun j hj => ⟨Nat.le_trans S23.out hj, fun e => by have h1 := HV.out _ e.symm; have h2 := S3.out; omega⟩
        case aF => exact fun j hj => Nat.le_trans B24.out.size hj
        case aL => have h1 := HRL.out; have h2 := HK16.out; omega
        intro v5 w5 ho hb5 hg hat
        rw [← HSP.out] at ho
        have R5 := Aside0.mk ho
        have B5 := Aside0.mk hb5
        clear ho hb5 hg hat R4 R44 RL HV
        have hrl : ((rowsB i s k).length : Int) ≤ 100 := by have h1 := HRL.out; have h2 := HK16.out; omega
        go_wp2_with fail
        refine ⟨⟨k + 1, by have := HLT.out; omega, rfl, (by rw [HSP.out]; simp), R5, B5⟩, by have := HLT.out; simp [intOf]; omega⟩
      · have dp : decide (0 < b.length) = false := decide_eq_false hp
        have HSP : Aside0 (rowsB i s (k + 1) = rowsB i s k) := ⟨HSC.out.trans (if_neg (by omega))⟩
        have R5 : Aside0 (Kd.R (Kd.slice 5 (Kd.int .u8)) 44 w3 w2.heap.size (fun j => w2.heap.size ≤ j) _ (rowsB i s (k + 1))) := ⟨by rw [HSP.out]; exact Kd.R_below RL.out B3.out⟩
        have B5 := Aside0.mk (below_thenB BR.out B3.out BR.out.size)
        clear hp HSC RL
        go_wp2_with fail
        refine ⟨⟨k + 1, by have := HLT.out; omega, rfl, (by rw [HSP.out]), R5, B5⟩, by have := HLT.out; simp [intOf]; omega⟩
    · have dk : decide ((k : Int) < 8 + (i.tracks.length : Int)) = false := decide_eq_false hlt
      obtain rfl : k = 8 + i.tracks.length := by omega
      have BRW := Aside0.mk (below_thenB B2.out BR.out B2.out.size)
      have IR := Aside0.mk (I2.out.below BR.out)
      clear hlt hk
      obtain ⟨Al, cl, rfl, -, -⟩ := Kd.R_reads RL.out
      have HB := Aside0.mk (rowsB_bytes i s (8 + i.tracks.length) (by have := HT8.out; omega))
      have HLN := Aside0.mk (rowsB_len i s (8 + i.tracks.length))
      have HST : Aside0 (stepI 3 (0 + 1) (fun _ => Ch.zero) (rowsB i s (8 + i.tracks.length)) = (((rowsB i s (8 + i.tracks.length)).length : Int), stB i s (8 + i.tracks.length))) := ⟨step_rows i s 3 (by decide) (8 + i.tracks.length) (by have := HT8.out; omega)⟩
      have HNT := Aside0.mk (fun (h : 6 + i.tracks.length ≤ (rowsB i s (8 + i.tracks.length)).length) (hr : 0 ≤ i.routes ∧ i.routes < 2 ^ i.tracks.length) => now_told i s 3 (by decide) HT8.out h hr)
      go_upto_region 17 with fail
      have hmay := may_is i.routes i.tracks.length
      generalize (i.routes / 2 ^ i.tracks.length == 0) = may at hmay ⊢
      have HMAY := Aside0.mk hmay
      have hfz := frozen_of_heap HXr.out 4
      clear hmay
      go_upto_region 18 with fail
      obtain ⟨w3, hw3⟩ : ∃ w3, w3 = wr.setCell ⟨w.heap.size, 4, none⟩ (.bool true) := ⟨_, rfl⟩
      have hO : Only w.heap.size wr w3 := by rw [hw3]; exact set_only _ _ _ _
      have B3 := bonly BRW hO (Nat.le_refl _)
      have I3 := Aside0.mk (IR.out.only hO (Nat.ne_of_gt HW.out.1) (Nat.ne_of_gt HW.out.2.1) (fun k hk => by have := HW.out.2.1; have := hk.1; omega))
      have R3 := Aside0.mk (R_onlyS RL.out hO (fun k hk => Nat.ne_of_gt (Nat.lt_of_lt_of_le (Nat.lt_trans HW.out.1 HW.out.2.2.1) hk)))
      have s0 : World.cell? w3 ⟨w.heap.size, 0, none⟩ = some (.bool i.b0) := by rw [hw3, cell_set_ne _ (by decide)]; exact q0
      have s1 : World.cell? w3 ⟨w.heap.size, 1, none⟩ = some (.bool i.b1) := by rw [hw3, cell_set_ne _ (by decide)]; exact q1
      have s2 : World.cell? w3 ⟨w.heap.size, 2, none⟩ = some (.bool i.b2) := by rw [hw3, cell_set_ne _ (by decide)]; exact q2
      have s3 : World.cell? w3 ⟨w.heap.size, 3, none⟩ = some (.bool i.b3) := by rw [hw3, cell_set_ne _ (by decide)]; exact q3
      have s4 : World.cell? w3 ⟨w.heap.size, 4, none⟩ = some (.bool true) := by rw [hw3]; exact cell_set_eq _ HXr.out q4
      have s5 : World.cell? w3 ⟨w.heap.size, 5, none⟩ = some (.bool i.lamps) := by rw [hw3, cell_set_ne _ (by decide)]; exact q5
      have s6 : World.cell? w3 ⟨w.heap.size, 6, none⟩ = some (.bool i.obst) := by rw [hw3, cell_set_ne _ (by decide)]; exact q6
      have s7 : World.cell? w3 ⟨w.heap.size, 7, none⟩ = some (.int .i64 i.mode) := by rw [hw3, cell_set_ne _ (by decide)]; exact q7
      have s8 : World.cell? w3 ⟨w.heap.size, 8, none⟩ = some (.bool i.mains) := by rw [hw3, cell_set_ne _ (by decide)]; exact q8
      have s9 : World.cell? w3 ⟨w.heap.size, 9, none⟩ = some (.bool i.batt) := by rw [hw3, cell_set_ne _ (by decide)]; exact q9
      have s10 : World.cell? w3 ⟨w.heap.size, 10, none⟩ = some (.int .i64 i.routes) := by rw [hw3, cell_set_ne _ (by decide)]; exact q10
      have s11 : World.cell? w3 ⟨w.heap.size, 11, none⟩ = some (.slice A i.tracks.length c) := by rw [hw3, cell_set_ne _ (by decide)]; exact q11
      have HQ3 : Aside0 (∀ (k : Nat) u, (#[.bool i.b0, .bool i.b1, .bool i.b2, .bool i.b3, .bool true, .bool i.lamps, .bool i.obst, .int .i64 i.mode, .bool i.mains, .bool i.batt, .int .i64 i.routes, .slice A i.tracks.length c] : Array Value)[k]? = some u → World.cell? w3 ⟨w.heap.size, k, none⟩ = some u) := ⟨fun k u hk => by
        match k with
        | 0 => rw [← hk]; exact s0
        | 1 => rw [← hk]; exact s1
        | 2 => rw [← hk]; exact s2
        | 3 => rw [← hk]; exact s3
        | 4 => rw [← hk]; exact s4
        | 5 => rw [← hk]; exact s5
        | 6 => rw [← hk]; exact s6
        | 7 => rw [← hk]; exact s7
        | 8 => rw [← hk]; exact s8
        | 9 => rw [← hk]; exact s9
        | 10 => rw [← hk]; exact s10
        | 11 => rw [← hk]; exact s11
        | k + 12 => simp at hk⟩
      have HSZ := Aside0.mk (show w.heap.size < w3.heap.size from Nat.lt_of_lt_of_le (heap_lt HXr.out) hO.size)
      rw [← hw3]
      clear hO hw3 hfz RL BRW IR q0 q1 q2 q3 q4 q5 q6 q7 q8 q9 q10 q11 s0 s1 s2 s3 s4 s5 s6 s7 s8 s9 s10 s11
      go_wp2_with fail
      refine (IStep_calls w3 I3.out (by decide) Al cl (rowsB i s (8 + i.tracks.length)) (fun W hW => (Kd.R_reads' (R_onlyS R3.out hW (fun k hk => Nat.ne_of_gt (Nat.lt_of_lt_of_le HW.out.2.2.2 hk)))).2.2) (by have := HLN.out; have := HT8.out; omega) HB.out).mono ?_
      rintro e w4 ⟨rfl, hI, hO⟩
      rw [HST.out] at hI ⊢
      have hI : IK w4 x gx 3 1 i.tracks.length (stB i s (8 + i.tracks.length)) := hI
      have I4 := Aside0.mk hI
      have B4 := bonly B3 hO (Nat.le_of_lt HW.out.2.1)
      have HQ4 : Aside0 (∀ (k : Nat) u, (#[.bool i.b0, .bool i.b1, .bool i.b2, .bool i.b3, .bool true, .bool i.lamps, .bool i.obst, .int .i64 i.mode, .bool i.mains, .bool i.batt, .int .i64 i.routes, .slice A i.tracks.length c] : Array Value)[k]? = some u → World.cell? w4 ⟨w.heap.size, k, none⟩ = some u) := ⟨fun k u hk => (cell_same_blk (hO.block _ HSZ.out (Nat.ne_of_lt HW.out.2.1)) k).trans (HQ3.out k u hk)⟩
      clear hI hO HST HB HLN B3 I3 R3 HQ3
      generalize stB i s (8 + i.tracks.length) = S at I4 HNT
      generalize rowsB i s (8 + i.tracks.length) = rows at HNT ⊢
      go_wp2_with fail
      refine (Now_calls w4 I4.out.obj I4.out.lk (by decide) I4.out.hn).mono ?_
      rintro e w5 ⟨v5, rfl, hR, hb⟩
      have B5 := Aside0.mk (below_thenB B4.out hb B4.out.size)
      have R5 := Aside0.mk hR
      have HLEN := Aside0.mk (show (nowI 3 1 S i.tracks.length).tracks.length = i.tracks.length from tracksOf_len _ _ _)
      have HQ5 : Aside0 (∀ (k : Nat) u, (#[.bool i.b0, .bool i.b1, .bool i.b2, .bool i.b3, .bool true, .bool i.lamps, .bool i.obst, .int .i64 i.mode, .bool i.mains, .bool i.batt, .int .i64 i.routes, .slice A i.tracks.length c] : Array Value)[k]? = some u → World.cell? w5 ⟨w.heap.size, k, none⟩ = some u) := ⟨fun k u hk => pw_cell_below hb (HQ4.out k u hk)⟩
      generalize nowI 3 1 S i.tracks.length = J at R5 HLEN HNT
      obtain ⟨b0, b1, b2, b3, su, la, ob, mo, ma, ba, ro, tr⟩ := J
      obtain ⟨A5, c5, rfl, -, -⟩ := Kd.R_reads R5.out
      clear hR hb B4 I4 HQ4
      unfold Inp.val
      dsimp only at HLEN R5 HNT ⊢
      go_upto_region 21 with fail
      obtain ⟨w6, hw6⟩ : ∃ w6, w6 = w5.alloc (.cells #[.bool b0, .bool b1, .bool b2, .bool b3, .bool su, .bool la, .bool ob, .int .i64 mo, .bool ma, .bool ba, .int .i64 ro, .slice A5 tr.length c5] 36) := ⟨_, rfl⟩
      have hb : Below w5.heap.size w5 w6 := by rw [hw6]; exact below_alloc (Below.refl _ _) _
      have HD6 : Aside0 (w6.heap[w5.heap.size]? = some (.cells #[.bool b0, .bool b1, .bool b2, .bool b3, .bool su, .bool la, .bool ob, .int .i64 mo, .bool ma, .bool ba, .int .i64 ro, .slice A5 tr.length c5] 36 (0, 0))) := ⟨by rw [hw6]; exact heap_new _ _⟩
      rw [← hw6]
      have B6 := Aside0.mk (below_thenB B5.out hb B5.out.size)
      have R6 := Aside0.mk (Kd.R_below R5.out hb)
      have HQ6 : Aside0 (∀ (k : Nat) u, (#[.bool i.b0, .bool i.b1, .bool i.b2, .bool i.b3, .bool true, .bool i.lamps, .bool i.obst, .int .i64 i.mode, .bool i.mains, .bool i.batt, .int .i64 i.routes, .slice A i.tracks.length c] : Array Value)[k]? = some u → World.cell? w6 ⟨w.heap.size, k, none⟩ = some u) := ⟨fun k u hk => pw_cell_below hb (HQ5.out k u hk)⟩
      have C6 := Aside0.mk (Kd.C_below HC0.out B6.out)
      clear hw6 hb B5 R5 HQ5
      have p0 : World.cell? w6 ⟨w5.heap.size, 0, none⟩ = some (.bool b0) := cell_of_heap HD6.out 0
      have q0 : World.cell? w6 ⟨w.heap.size, 0, none⟩ = some (.bool i.b0) := HQ6.out 0 _ rfl
      have p1 : World.cell? w6 ⟨w5.heap.size, 1, none⟩ = some (.bool b1) := cell_of_heap HD6.out 1
      have q1 : World.cell? w6 ⟨w.heap.size, 1, none⟩ = some (.bool i.b1) := HQ6.out 1 _ rfl
      have p2 : World.cell? w6 ⟨w5.heap.size, 2, none⟩ = some (.bool b2) := cell_of_heap HD6.out 2
      have q2 : World.cell? w6 ⟨w.heap.size, 2, none⟩ = some (.bool i.b2) := HQ6.out 2 _ rfl
      have p3 : World.cell? w6 ⟨w5.heap.size, 3, none⟩ = some (.bool b3) := cell_of_heap HD6.out 3
      have q3 : World.cell? w6 ⟨w.heap.size, 3, none⟩ = some (.bool i.b3) := HQ6.out 3 _ rfl
      have p4 : World.cell? w6 ⟨w5.heap.size, 4, none⟩ = some (.bool su) := cell_of_heap HD6.out 4
      have q4 : World.cell? w6 ⟨w.heap.size, 4, none⟩ = some (.bool true) := HQ6.out 4 _ rfl
      have p5 : World.cell? w6 ⟨w5.heap.size, 5, none⟩ = some (.bool la) := cell_of_heap HD6.out 5
      have q5 : World.cell? w6 ⟨w.heap.size, 5, none⟩ = some (.bool i.lamps) := HQ6.out 5 _ rfl
      have p6 : World.cell? w6 ⟨w5.heap.size, 6, none⟩ = some (.bool ob) := cell_of_heap HD6.out 6
      have q6 : World.cell? w6 ⟨w.heap.size, 6, none⟩ = some (.bool i.obst) := HQ6.out 6 _ rfl
      have p7 : World.cell? w6 ⟨w5.heap.size, 7, none⟩ = some (.int .i64 mo) := cell_of_heap HD6.out 7
      have q7 : World.cell? w6 ⟨w.heap.size, 7, none⟩ = some (.int .i64 i.mode) := HQ6.out 7 _ rfl
      have p8 : World.cell? w6 ⟨w5.heap.size, 8, none⟩ = some (.bool ma) := cell_of_heap HD6.out 8
      have q8 : World.cell? w6 ⟨w.heap.size, 8, none⟩ = some (.bool i.mains) := HQ6.out 8 _ rfl
      have p9 : World.cell? w6 ⟨w5.heap.size, 9, none⟩ = some (.bool ba) := cell_of_heap HD6.out 9
      have q9 : World.cell? w6 ⟨w.heap.size, 9, none⟩ = some (.bool i.batt) := HQ6.out 9 _ rfl
      have p10 : World.cell? w6 ⟨w5.heap.size, 10, none⟩ = some (.int .i64 ro) := cell_of_heap HD6.out 10
      have q10 : World.cell? w6 ⟨w.heap.size, 10, none⟩ = some (.int .i64 i.routes) := HQ6.out 10 _ rfl
      have p11 : World.cell? w6 ⟨w5.heap.size, 11, none⟩ = some (.slice A5 tr.length c5) := cell_of_heap HD6.out 11
      have q11 : World.cell? w6 ⟨w.heap.size, 11, none⟩ = some (.slice A i.tracks.length c) := HQ6.out 11 _ rfl
      have hlen : ((tr.length : Int) == (i.tracks.length : Int)) = true := by rw [HLEN.out]; simp
      by_cases hN : (rows.length : Int) < 6 + (i.tracks.length : Int)
      · have dN : decide ((rows.length : Int) < 6 + (i.tracks.length : Int)) = true := decide_eq_true hN
        clear hN
        go_wp2_with fail
        go_ret
        exact ⟨rfl, B6.out⟩
      · have dN : decide ((rows.length : Int) < 6 + (i.tracks.length : Int)) = false := decide_eq_false hN
        have HN6 := Aside0.mk hN
        clear hN
        cases may with
        | false =>
          go_wp2_with fail
          go_ret
          exact ⟨rfl, B6.out⟩
        | true =>
          have hT := HNT.out (by have := HN6.out; omega) (HMAY.out rfl)
          injection hT with h0 h1 h2 h3 h4 h5 h6 h7 h8 h9 h10 h11
          subst h0 h1 h2 h3 h4 h5 h6 h7 h8 h9 h10 h11
          obtain ⟨-, g7, g8⟩ := Kd.R_reads' R6.out
          have CC := Aside0.mk (And.intro g7 g8)
          clear HNT HMAY hlen g7 g8 R6 HLEN
          go_wp2_with fail
          refine (Same_calls ⟨i.b0, i.b1, i.b2, i.b3, true, i.lamps, i.obst, i.mode, i.mains, i.batt, i.routes, i.tracks⟩ A5 c5 A c w6 (by have := HT8.out; show i.tracks.length ≤ _; omega) CC.out.2 CC.out.1 C6.out HCC.out).mono ?_
          rintro e w7 ⟨rfl, hb⟩
          have B7 := Aside0.mk (below_thenB B6.out hb B6.out.size)
          clear hb
          go_wp2_with fail
          go_ret
          exact ⟨rfl, B7.out⟩
set_option maxHeartbeats 16000000 in
set_option maxRecDepth 100000 in
theorem itold_bad (i : Inp) (A : Option Addr) (c : Nat) (s : Int) (w : World) (hC : Kd.C k48 w A i.tracks.length i.tracks) (hcc : i.tracks.length ≤ c) (hg : Gerr w) (hb : ¬ (1 ≤ i.tracks.length ∧ i.tracks.length ≤ 8)) : Calls Tryd.prog 7 #[i.val (.slice A i.tracks.length c), .int .i64 s] w fun e w' => e = .returned (.bool true) ∧ Below w.heap.size w w' := by
  have HC := Aside0.mk hC
  have HCC := Aside0.mk hcc
  have HG := Aside0.mk hg
  clear hC hcc hg
  by_cases c0 : (i.tracks.length : Int) < 1
  · have d0 : decide ((i.tracks.length : Int) < 1) = true := decide_eq_true c0
    clear hb c0
    unfold Inp.val
    go_enter Tryd.func7, Tryd.ntmps7
    go_wp2_with fail
    obtain ⟨w0, hw0⟩ : ∃ w0, w0 = w.alloc (.cells #[.bool i.b0, .bool i.b1, .bool i.b2, .bool i.b3, .bool i.sure, .bool i.lamps, .bool i.obst, .int .i64 i.mode, .bool i.mains, .bool i.batt, .int .i64 i.routes, .slice A i.tracks.length c] 36) := ⟨_, rfl⟩
    have hb0 : Below w.heap.size w w0 := by rw [hw0]; exact below_alloc (Below.refl _ _) _
    have HX0 : w0.heap[w.heap.size]? = some (.cells #[.bool i.b0, .bool i.b1, .bool i.b2, .bool i.b3, .bool i.sure, .bool i.lamps, .bool i.obst, .int .i64 i.mode, .bool i.mains, .bool i.batt, .int .i64 i.routes, .slice A i.tracks.length c] 36 (0, 0)) := by rw [hw0]; exact heap_new _ _
    rw [← hw0]
    refine (small_calls w0 (HG.out.below ⟨hb0⟩)).mono ?_
    rintro e w1 ⟨rfl, hb⟩
    have B1 := Aside0.mk (below_thenB hb0 hb hb0.size)
    have HX1 := Aside0.mk (heap_below ⟨hb⟩ HX0)
    have C1 := Aside0.mk (Kd.C_below HC.out B1.out)
    clear hw0 hb0 HX0 hb HC
    have q11 : World.cell? w1 ⟨w.heap.size, 11, none⟩ = some (.slice A i.tracks.length c) := cell_of_heap HX1.out 11
    go_wp2_with fail
    go_ret
    exact ⟨rfl, B1.out⟩
  have d0 : decide ((i.tracks.length : Int) < 1) = false := decide_eq_false c0
  by_cases c1 : (8 : Int) < (i.tracks.length : Int)
  · have d1 : decide ((8 : Int) < (i.tracks.length : Int)) = true := decide_eq_true c1
    clear hb c1
    unfold Inp.val
    go_enter Tryd.func7, Tryd.ntmps7
    go_wp2_with fail
    obtain ⟨w0, hw0⟩ : ∃ w0, w0 = w.alloc (.cells #[.bool i.b0, .bool i.b1, .bool i.b2, .bool i.b3, .bool i.sure, .bool i.lamps, .bool i.obst, .int .i64 i.mode, .bool i.mains, .bool i.batt, .int .i64 i.routes, .slice A i.tracks.length c] 36) := ⟨_, rfl⟩
    have hb0 : Below w.heap.size w w0 := by rw [hw0]; exact below_alloc (Below.refl _ _) _
    have HX0 : w0.heap[w.heap.size]? = some (.cells #[.bool i.b0, .bool i.b1, .bool i.b2, .bool i.b3, .bool i.sure, .bool i.lamps, .bool i.obst, .int .i64 i.mode, .bool i.mains, .bool i.batt, .int .i64 i.routes, .slice A i.tracks.length c] 36 (0, 0)) := by rw [hw0]; exact heap_new _ _
    rw [← hw0]
    refine (small_calls w0 (HG.out.below ⟨hb0⟩)).mono ?_
    rintro e w1 ⟨rfl, hb⟩
    have B1 := Aside0.mk (below_thenB hb0 hb hb0.size)
    have HX1 := Aside0.mk (heap_below ⟨hb⟩ HX0)
    have C1 := Aside0.mk (Kd.C_below HC.out B1.out)
    clear hw0 hb0 HX0 hb HC
    have q11 : World.cell? w1 ⟨w.heap.size, 11, none⟩ = some (.slice A i.tracks.length c) := cell_of_heap HX1.out 11
    go_wp2_with fail
    go_ret
    exact ⟨rfl, B1.out⟩
  have d1 : decide ((8 : Int) < (i.tracks.length : Int)) = false := decide_eq_false c1
  exact absurd (show _ from ⟨by omega, by omega⟩) hb
theorem itold_walk (i : Inp) (A : Option Addr) (c : Nat) (s : Int) (w : World) (hC : Kd.C k48 w A i.tracks.length i.tracks) (hl : i.tracks.length ≤ c) (_ : (Lit.int .i64 s).wf = true) (hg : Gerr w) : Calls Tryd.prog 7 #[i.val (.slice A i.tracks.length c), .int .i64 s] w fun e w' => e = .returned (.bool true) ∧ Below w.heap.size w w' := by
  by_cases h : 1 ≤ i.tracks.length ∧ i.tracks.length ≤ 8
  · exact itold_calls0 i A c s w hC hl hg h
  · exact itold_bad i A c s w hC hl hg h
end Go.Proofs.YtfijlaahifeimaaDoor.PE
