/- inputs: InputsLost' walk. -/
import Derived.Test.YtfijlaahifeimaaDoorMN
import Derived.Test.YtfijlaahifeimaaDoorPSx11
namespace Go.Proofs.YtfijlaahifeimaaDoor.PE
open Go.RowKit Go.Extern.Stop Go.Stop Go.Extern Go.Proofs.YtfijlaahifeimaaDoorW.PrintWords Go.Proofs.YtfijlaahifeimaaDoorW.PrintLast Go.Proofs.YtfijlaahifeimaaDoorW.PrintMore Go.Proofs.YtfijlaahifeimaaDoor.PS
set_option linter.unusedVariables false
set_option linter.unusedSimpArgs false
theorem R_set36 {w : World} {base : Nat} {ok : Nat → Prop} {v : Value} {xs : List S48} (h : Kd.R k48 48 w base ok v xs) {g : Nat} {cells : Array Value} (hb : w.heap[g]? = some (.cells cells 36 (0, 0))) (j : Nat) (u : Value) : Kd.R k48 48 (w.setCell ⟨g, j, none⟩ u) base ok v xs :=
  Kd.R_set h hb (fun q hq => by
    have hE : k48.E = [] := rfl
    rw [hE, List.mem_singleton] at hq
    omega) j u
set_option maxHeartbeats 16000000 in
set_option maxRecDepth 100000 in
theorem ilost_calls0 (i : Inp) (A : Option Addr) (c : Nat) (f n : Int) (w : World) (hC : Kd.C k48 w A i.tracks.length i.tracks) (hcc : i.tracks.length ≤ c) (hg : Gerr w) (ht : 1 ≤ i.tracks.length ∧ i.tracks.length ≤ 8) (hf : 1 ≤ f ∧ f ≤ 300) (hn : 0 ≤ n ∧ n ≤ f) : Calls Tryd.prog 8 #[i.val (.slice A i.tracks.length c), .int .i64 f, .int .i64 n] w fun e w' => e = .returned (.bool true) ∧ Below w.heap.size w w' := by
  have HC := Aside0.mk hC
  have HCC := Aside0.mk hcc
  have HG := Aside0.mk hg
  have HT8 := Aside0.mk ht
  have HF3 := Aside0.mk hf
  have HN3 := Aside0.mk hn
  have d1 : decide ((i.tracks.length : Int) < 1) = false := decide_eq_false (by omega)
  have d2 : decide ((8 : Int) < (i.tracks.length : Int)) = false := decide_eq_false (by omega)
  have d3 : decide (f < 1) = false := decide_eq_false (by omega)
  have d4 : decide (300 < f) = false := decide_eq_false (by omega)
  have d5 : decide (n < 0) = false := decide_eq_false (by omega)
  have d6 : decide (f < n) = false := decide_eq_false (by omega)
  clear hC hcc hg ht hf hn
  unfold Inp.val
  go_enter Tryd.func8, Tryd.ntmps8
  go_wp2_with fail
  obtain ⟨w0, hw0⟩ : ∃ w0, w0 = w.alloc (.cells #[.bool i.b0, .bool i.b1, .bool i.b2, .bool i.b3, .bool i.sure, .bool i.lamps, .bool i.obst, .int .i64 i.mode, .bool i.mains, .bool i.batt, .int .i64 i.routes, .slice A i.tracks.length c] 36) := ⟨_, rfl⟩
  have hb0 : Below w.heap.size w w0 := by rw [hw0]; exact below_alloc (Below.refl _ _) _
  have HX0 : w0.heap[w.heap.size]? = some (.cells #[.bool i.b0, .bool i.b1, .bool i.b2, .bool i.b3, .bool i.sure, .bool i.lamps, .bool i.obst, .int .i64 i.mode, .bool i.mains, .bool i.batt, .int .i64 i.routes, .slice A i.tracks.length c] 36 (0, 0)) := by rw [hw0]; exact heap_new _ _
  rw [← hw0]
  refine (small_calls w0 (HG.out.below ⟨hb0⟩)).mono ?_
  rintro e w1 ⟨rfl, hb⟩
  have B1 := Aside0.mk (below_thenB hb0 hb hb0.size)
  have HX1 := Aside0.mk (heap_below ⟨hb⟩ HX0)
  have C1 := Aside0.mk (Kd.C_below HC.out B1.out)
  clear hw0 hb0 HX0 hb HC
  have q11 : World.cell? w1 ⟨w.heap.size, 11, none⟩ = some (.slice A i.tracks.length c) := cell_of_heap HX1.out 11
  go_wp2_with fail
  refine (INew_calls (i.tracks.length : Int) f w1).mono ?_
  rintro e w2 ⟨x, gx, rfl, hI, hx, hgx, hb⟩
  have e1 : max 1 (min f 6000) = f := by have := HF3.out; omega
  have e2 : trk (i.tracks.length : Int) = i.tracks.length := by have := HT8.out; unfold trk; omega
  rw [e1, e2] at hI
  have I2 := Aside0.mk hI
  have B2 := Aside0.mk (below_thenB B1.out hb B1.out.size)
  have HX2 := Aside0.mk (heap_below ⟨hb⟩ HX1.out)
  have C2 := Aside0.mk (Kd.C_below C1.out hb)
  have HW := Aside0.mk (show w.heap.size < x ∧ w.heap.size < gx ∧ x < w2.heap.size ∧ gx < w2.heap.size from ⟨Nat.lt_of_lt_of_le (heap_lt HX1.out) hx, Nat.lt_of_lt_of_le (heap_lt HX1.out) hgx, heap_lt hI.obj, hI.lk.lt⟩)
  clear hI hx hgx hb e1 e2 B1 HX1 C1 q11 d1 d2 d3 d4 d5 d6
  go_wp2_with fail
  go_loopw [9, 10] (fun v ch W => ∃ k : Nat, k ≤ 8 + i.tracks.length ∧ ch = .int .i64 k ∧ Aside0 (Kd.R (Kd.slice 5 (Kd.int .u8)) 44 W w2.heap.size (fun j => w2.heap.size ≤ j) v (rowsB i 1 k)) ∧ Aside0 (Below w2.heap.size w2 W)) (fun _ ch _ => 8 + i.tracks.length - (intOf ch).toNat)
  case atStart => exact ⟨0, by omega, rfl, ⟨Kd.R_nil _ _ _ _ _⟩, ⟨Below.refl _ _⟩⟩
  case round =>
    obtain ⟨k, hk, rfl, RL, BR⟩ := hrel
    have HXr := Aside0.mk (heap_below BR HX2.out)
    have h8 : (i.tracks.length : Int) ≤ 8 := by have := HT8.out; omega
    have h0 : (0 : Int) ≤ (i.tracks.length : Int) := by omega
    have q0 : World.cell? wr ⟨w.heap.size, 0, none⟩ = some (.bool i.b0) := cell_of_heap HXr.out 0
    have q1 : World.cell? wr ⟨w.heap.size, 1, none⟩ = some (.bool i.b1) := cell_of_heap HXr.out 1
    have q2 : World.cell? wr ⟨w.heap.size, 2, none⟩ = some (.bool i.b2) := cell_of_heap HXr.out 2
    have q3 : World.cell? wr ⟨w.heap.size, 3, none⟩ = some (.bool i.b3) := cell_of_heap HXr.out 3
    have q4 : World.cell? wr ⟨w.heap.size, 4, none⟩ = some (.bool i.sure) := cell_of_heap HXr.out 4
    have q5 : World.cell? wr ⟨w.heap.size, 5, none⟩ = some (.bool i.lamps) := cell_of_heap HXr.out 5
    have q6 : World.cell? wr ⟨w.heap.size, 6, none⟩ = some (.bool i.obst) := cell_of_heap HXr.out 6
    have q7 : World.cell? wr ⟨w.heap.size, 7, none⟩ = some (.int .i64 i.mode) := cell_of_heap HXr.out 7
    have q8 : World.cell? wr ⟨w.heap.size, 8, none⟩ = some (.bool i.mains) := cell_of_heap HXr.out 8
    have q9 : World.cell? wr ⟨w.heap.size, 9, none⟩ = some (.bool i.batt) := cell_of_heap HXr.out 9
    have q10 : World.cell? wr ⟨w.heap.size, 10, none⟩ = some (.int .i64 i.routes) := cell_of_heap HXr.out 10
    have q11 : World.cell? wr ⟨w.heap.size, 11, none⟩ = some (.slice A i.tracks.length c) := cell_of_heap HXr.out 11
    by_cases hlt : (k : Int) < 8 + (i.tracks.length : Int)
    · have dk : decide ((k : Int) < 8 + (i.tracks.length : Int)) = true := decide_eq_true hlt
      have HLT := Aside0.mk hlt
      have hk16 : k < 16 := by omega
      have HBS := Aside0.mk (bB_small i k)
      have HK16 := Aside0.mk hk16
      have HRL := Aside0.mk (rowsB_len i 1 k)
      have CR := Aside0.mk (Kd.C_below C2.out BR.out)
      have HPR : Aside0 (i.prt (k : Int) = some (bB i k)) := ⟨prt_is i k (by omega) HT8.out.2⟩
      have HSC : Aside0 (rowsB i 1 (k + 1) = if 0 < (bB i k).length then rowsB i 1 k ++ [encB (k : Int) (1 % 256) (bB i k)] else rowsB i 1 k) := ⟨rfl⟩
      clear hlt hk
      go_wp2_with fail
      refine (sensor_Print.calls 9 i.b0 i.b1 i.b2 i.b3 i.sure i.lamps i.obst i.mode i.mains i.batt i.routes A c i.tracks (k : Int) (bB i k) wr CR.out HCC.out HPR.out).mono ?_
      rintro e w3 ⟨v3, rfl, hR, hb⟩
      obtain ⟨A3, c3, rfl, hc3, hC3⟩ := Kd.R_reads hR
      have B3 := Aside0.mk hb
      have C3 := Aside0.mk (And.intro hc3 hC3)
      clear hR hb hc3 hC3 q0 q1 q2 q3 q4 q5 q6 q7 q8 q9 q10 q11
      generalize bB i k = b at HBS HSC C3
      by_cases hp : 0 < b.length
      · have dp : decide (0 < b.length) = true := decide_eq_true hp
        have HSP : Aside0 (rowsB i 1 (k + 1) = rowsB i 1 k ++ [encB (k : Int) (1 % 256) b]) := ⟨HSC.out.trans (if_pos (by omega))⟩
        clear hp HSC
        go_wp2_with fail
        refine (Tele_calls (k : Int) 1 A3 c3 b w3 C3.out.2 C3.out.1 (by have := HBS.out.1; omega)).mono ?_
        rintro e w4 ⟨v4, rfl, hR, hb⟩
        have R4 := Aside0.mk hR
        have B4 := Aside0.mk hb
        have B24 := Aside0.mk (below_thenB (below_thenB BR.out B3.out BR.out.size) hb (Nat.le_trans BR.out.size B3.out.size))
        have HV := Aside0.mk (Kd.R_lt RL.out)
        have S3 := Aside0.mk B3.out.size
        have S23 := Aside0.mk (Nat.le_trans BR.out.size B3.out.size)
        have R44 := Aside0.mk (Kd.R_below (Kd.R_below RL.out B3.out) hb)
        clear hR hb
        generalize encB (k : Int) (1 % 256) b = EB at R4 HSP
        obtain ⟨A4, c4, rfl, -, -⟩ := Kd.R_reads R4.out
        go_wp2_with ((with_reducible refine gate_builtin (b := .append) (xs := #[.tmp 65, .tmp 69]) rfl ?_); at_builtin; refine Kd.R_append (Kd.slice 5 (Kd.int .u8)) (w0 := w2) w2.heap.size rfl (.tmp 65) (.tmp 69) 30 44 (.slice none 0 0) 24 rfl Tryd.underlying30 info44 rfl (by decide) (by decide) _ (rowsB i 1 k) EB [.slice A4 EB.length c4] (fun j => w2.heap.size ≤ j) (fun j => w3.heap.size ≤ j) rfl rfl ?aM ?aK ?aF R44.out B24.out B24.out.size ?aL ?_)
        case aM => exact Kd.M_row (Kd.R_mono (Kd.R_lower (Kd.R_bound R4.out) S23.out) (fun _ hk => hk.2.1))
        case aK => exact fun j hj => ⟨Nat.le_trans S23.out hj, fun e => by have h1 := HV.out _ e.symm; have h2 := S3.out; omega⟩
        case aF => exact fun j hj => Nat.le_trans B24.out.size hj
        case aL => have h1 := HRL.out; have h2 := HK16.out; omega
        intro v5 w5 ho hb5 hg hat
        rw [← HSP.out] at ho
        have R5 := Aside0.mk ho
        have B5 := Aside0.mk hb5
        clear ho hb5 hg hat R4 R44 RL HV
        skip
        go_wp2_with fail
        refine ⟨⟨k + 1, by have := HLT.out; omega, rfl, R5, B5⟩, by have := HLT.out; simp [intOf]; omega⟩
      · have dp : decide (0 < b.length) = false := decide_eq_false hp
        have HSP : Aside0 (rowsB i 1 (k + 1) = rowsB i 1 k) := ⟨HSC.out.trans (if_neg (by omega))⟩
        have R5 : Aside0 (Kd.R (Kd.slice 5 (Kd.int .u8)) 44 w3 w2.heap.size (fun j => w2.heap.size ≤ j) _ (rowsB i 1 (k + 1))) := ⟨by rw [HSP.out]; exact Kd.R_below RL.out B3.out⟩
        have B5 := Aside0.mk (below_thenB BR.out B3.out BR.out.size)
        clear hp HSC RL
        go_wp2_with fail
        refine ⟨⟨k + 1, by have := HLT.out; omega, rfl, R5, B5⟩, by have := HLT.out; simp [intOf]; omega⟩
    · have dk : decide ((k : Int) < 8 + (i.tracks.length : Int)) = false := decide_eq_false hlt
      obtain rfl : k = 8 + i.tracks.length := by omega
      have BRW := Aside0.mk (below_thenB B2.out BR.out B2.out.size)
      have IR := Aside0.mk (I2.out.below BR.out)
      clear hlt hk
      obtain ⟨Al, cl, rfl, -, -⟩ := Kd.R_reads RL.out
      have HB := Aside0.mk (rowsB_bytes i 1 (8 + i.tracks.length) (by have := HT8.out; omega))
      have HLN := Aside0.mk (rowsB_len i 1 (8 + i.tracks.length))
      have HST : Aside0 (stepI f (0 + 1) (fun _ => Ch.zero) (rowsB i 1 (8 + i.tracks.length)) = (((rowsB i 1 (8 + i.tracks.length)).length : Int), stB i 1 (8 + i.tracks.length))) := ⟨step_rows i 1 f HF3.out.1 (8 + i.tracks.length) (by have := HT8.out; omega)⟩
      have HLO := Aside0.mk (fun m (hm : 0 ≤ m ∧ m ≤ f) => And.intro (now_lost i 1 f (8 + i.tracks.length) m hm i.tracks.length) (sure_lost i 1 f (8 + i.tracks.length) m hm i.tracks.length))
      go_wp2_with fail
      refine (IStep_calls wr IR.out (by decide) Al cl (rowsB i 1 (8 + i.tracks.length)) (fun W hW => (Kd.R_reads' (R_onlyS RL.out hW (fun k hk => Nat.ne_of_gt (Nat.lt_of_lt_of_le HW.out.2.2.2 hk)))).2.2) (by have := HLN.out; have := HT8.out; omega) HB.out).mono ?_
      rintro e w3 ⟨rfl, hI, hO⟩
      rw [HST.out] at hI ⊢
      have hI : IK w3 x gx f 1 i.tracks.length (stB i 1 (8 + i.tracks.length)) := hI
      have I3 := Aside0.mk hI
      have B3 := bonly BRW hO (Nat.le_of_lt HW.out.2.1)
      clear hI hO HST HB HLN RL BRW IR q0 q1 q2 q3 q4 q5 q6 q7 q8 q9 q10 q11
      generalize rowsB i 1 (8 + i.tracks.length) = rows
      generalize stB i 1 (8 + i.tracks.length) = S at I3 HLO
      go_wp2_with fail
      refine (Now_calls w3 I3.out.obj I3.out.lk (by decide) I3.out.hn).mono ?_
      rintro e w5 ⟨v5, rfl, hR, hb⟩
      have HNR := Aside0.mk (show gx < w3.heap.size from I3.out.lk.lt)
      have I5 := Aside0.mk (I3.out.below hb)
      have B5 := Aside0.mk (below_thenB B3.out hb B3.out.size)
      have R5 := Aside0.mk (R_fromS hR)
      have HTL := Aside0.mk (show (nowI f 1 S i.tracks.length).tracks.length ≤ 1000000 by show (tracksOf _ _ _).length ≤ _; rw [tracksOf_len]; have := HT8.out; omega)
      generalize nowI f 1 S i.tracks.length = J at R5 HTL HLO
      obtain ⟨b0, b1, b2, b3, su, la, ob, mo, ma, ba, ro, tr⟩ := J
      obtain ⟨A5, c5, rfl, -, -⟩ := Kd.R_reads R5.out
      clear hR hb B3 I3
      unfold Inp.val
      dsimp only at HTL R5 HLO ⊢
      go_upto_region 16 with fail
      obtain ⟨w6, hw6⟩ : ∃ w6, w6 = w5.alloc (.cells #[.bool b0, .bool b1, .bool b2, .bool b3, .bool su, .bool la, .bool ob, .int .i64 mo, .bool ma, .bool ba, .int .i64 ro, .slice A5 tr.length c5] 36) := ⟨_, rfl⟩
      have hb : Below w5.heap.size w5 w6 := by rw [hw6]; exact below_alloc (Below.refl _ _) _
      have HB6 : Aside0 (w6.heap[w5.heap.size]? = some (.cells #[.bool b0, .bool b1, .bool b2, .bool b3, .bool su, .bool la, .bool ob, .int .i64 mo, .bool ma, .bool ba, .int .i64 ro, .slice A5 tr.length c5] 36 (0, 0))) := ⟨by rw [hw6]; exact heap_new _ _⟩
      have HN6 := Aside0.mk (show w5.heap.size ≠ gx by have := I5.out.lk.lt; omega)
      rw [← hw6]
      have I6 := Aside0.mk (I5.out.below hb)
      have B6 := Aside0.mk (below_thenB B5.out hb B5.out.size)
      have R6 := Aside0.mk (Kd.R_below R5.out hb)
      clear hw6 hb I5 B5 R5
      go_wp2_with fail
      go_loopw [13] (fun iv W => ∃ j : Nat, (j : Int) ≤ n ∧ iv = .int .i64 j ∧ Aside0 (IK W x gx f (1 + (j : Int)) i.tracks.length S) ∧ Aside0 (W.heap[w5.heap.size]? = some (.cells #[.bool b0, .bool b1, .bool b2, .bool b3, .bool su, .bool la, .bool ob, .int .i64 mo, .bool ma, .bool ba, .int .i64 ro, .slice A5 tr.length c5] 36 (0, 0))) ∧ Aside0 (Kd.R k48 48 W w3.heap.size (fun k => w3.heap.size ≤ k) (.slice A5 tr.length c5) tr) ∧ Aside0 (Below w.heap.size w W)) (fun iv _ => n.toNat - (intOf iv).toNat)
      case atStart => exact ⟨0, by have := HN3.out; omega, rfl, I6, HB6, R6, B6⟩
      case round =>
        clear I6 HB6 R6 B6
        obtain ⟨j, hj, rfl, I6, HB6, R6, B6⟩ := hrel
        have hj3 : (j : Int) ≤ 300 := by have := HN3.out; have := HF3.out; omega
        have HJ3 := Aside0.mk hj3
        by_cases hjl : (j : Int) < n
        · have dj : decide ((j : Int) < n) = true := decide_eq_true hjl
          have HJL := Aside0.mk hjl
          clear hjl hj
          go_wp2_with fail
          refine (IStep_calls _ I6.out (by have := HJ3.out; omega) none 0 [] (fun W hW => (Kd.R_reads' (Kd.R_nil (Kd.slice 5 (Kd.int .u8)) 44 W 0 (fun _ => True))).2.2) (by decide) (fun b hb => absurd hb (by simp))).mono ?_
          rintro e w7 ⟨rfl, hI, hO⟩
          have I7 : Aside0 (IK w7 x gx f (1 + ((j + 1 : Nat) : Int)) i.tracks.length S) := ⟨by
            have e : (1 : Int) + ((j + 1 : Nat) : Int) = 1 + (j : Int) + 1 := by omega
            rw [e]; exact hI⟩
          have B7 := bonly B6 hO (Nat.le_of_lt HW.out.2.1)
          have HB7 := Aside0.mk (heap_only hO HN6.out HB6.out)
          have R7 := Aside0.mk (R_onlyS R6.out hO (fun k hk => Nat.ne_of_gt (Nat.lt_of_lt_of_le HNR.out hk)))
          clear hI hO I6 B6 HB6 R6
          go_wp2_with fail
          refine ⟨⟨j + 1, by have := HJL.out; omega, rfl, I7, HB7, R7, B7⟩, by have := HJL.out; simp [intOf]; omega⟩
        · have dj : decide ((j : Int) < n) = false := decide_eq_false hjl
          have hje : (j : Int) = n := by omega
          rw [hje] at I6
          have HLN9 := Aside0.mk (HLO.out n HN3.out)
          have HN9 := Aside0.mk (show 1 + n ≤ 1000000 by have := HN3.out; have := HF3.out; omega)
          clear hj hjl hje hj3 HJ3
          go_wp2_with fail
          refine (Now_calls _ I6.out.obj I6.out.lk HN9.out I6.out.hn).mono ?_
          rintro e w8 ⟨v8, rfl, hR, hb⟩
          have hlo := HLN9.out
          have hlo2 := hlo.2
          have B8 := Aside0.mk (below_thenB B6.out hb B6.out.size)
          have HB8 := Aside0.mk (heap_below ⟨hb⟩ HB6.out)
          have R8 := Aside0.mk (Kd.R_below R6.out hb)
          have HLT8 := Aside0.mk (heap_lt HB8.out)
          have S8 := Aside0.mk B8.out.size
          rw [hlo.1] at hR
          rw [hlo.1]
          generalize (nowI f (1 + n) S i.tracks.length).sure = s2 at hR hlo2
          have Q8 := Aside0.mk hR
          obtain ⟨A8, c8, rfl, -, -⟩ := Kd.R_reads Q8.out
          have d0 : (s2 && decide (0 < n)) = false := by
            cases s2 with
            | false => rfl
            | true => rw [hlo2 rfl]; rfl
          clear hb hR hlo hlo2 HLN9 I6 B6 HB6 R6 HLO
          unfold Inp.val
          dsimp only at Q8 ⊢
          go_upto_region 21 with fail
          obtain ⟨w9, hw9⟩ : ∃ w9, w9 = w8.alloc (.cells #[.bool b0, .bool b1, .bool b2, .bool b3, .bool s2, .bool la, .bool ob, .int .i64 mo, .bool ma, .bool ba, .int .i64 ro, .slice A8 tr.length c8] 36) := ⟨_, rfl⟩
          have hb : Below w8.heap.size w8 w9 := by rw [hw9]; exact below_alloc (Below.refl _ _) _
          have HD9 : Aside0 (w9.heap[w8.heap.size]? = some (.cells #[.bool b0, .bool b1, .bool b2, .bool b3, .bool s2, .bool la, .bool ob, .int .i64 mo, .bool ma, .bool ba, .int .i64 ro, .slice A8 tr.length c8] 36 (0, 0))) := ⟨by rw [hw9]; exact heap_new _ _⟩
          rw [← hw9]
          have B9 := Aside0.mk (below_thenB B8.out hb B8.out.size)
          have HB9 := Aside0.mk (heap_below ⟨hb⟩ HB8.out)
          have R9 := Aside0.mk (Kd.R_below R8.out hb)
          have Q9 := Aside0.mk (Kd.R_below Q8.out hb)
          clear hw9 hb B8 HB8 R8 Q8
          have p0 : World.cell? w9 ⟨w5.heap.size, 0, none⟩ = some (.bool b0) := cell_of_heap HB9.out 0
          have r0 : World.cell? w9 ⟨w8.heap.size, 0, none⟩ = some (.bool b0) := cell_of_heap HD9.out 0
          have p1 : World.cell? w9 ⟨w5.heap.size, 1, none⟩ = some (.bool b1) := cell_of_heap HB9.out 1
          have r1 : World.cell? w9 ⟨w8.heap.size, 1, none⟩ = some (.bool b1) := cell_of_heap HD9.out 1
          have p2 : World.cell? w9 ⟨w5.heap.size, 2, none⟩ = some (.bool b2) := cell_of_heap HB9.out 2
          have r2 : World.cell? w9 ⟨w8.heap.size, 2, none⟩ = some (.bool b2) := cell_of_heap HD9.out 2
          have p3 : World.cell? w9 ⟨w5.heap.size, 3, none⟩ = some (.bool b3) := cell_of_heap HB9.out 3
          have r3 : World.cell? w9 ⟨w8.heap.size, 3, none⟩ = some (.bool b3) := cell_of_heap HD9.out 3
          have p4 : World.cell? w9 ⟨w5.heap.size, 4, none⟩ = some (.bool su) := cell_of_heap HB9.out 4
          have r4 : World.cell? w9 ⟨w8.heap.size, 4, none⟩ = some (.bool s2) := cell_of_heap HD9.out 4
          have p5 : World.cell? w9 ⟨w5.heap.size, 5, none⟩ = some (.bool la) := cell_of_heap HB9.out 5
          have r5 : World.cell? w9 ⟨w8.heap.size, 5, none⟩ = some (.bool la) := cell_of_heap HD9.out 5
          have p6 : World.cell? w9 ⟨w5.heap.size, 6, none⟩ = some (.bool ob) := cell_of_heap HB9.out 6
          have r6 : World.cell? w9 ⟨w8.heap.size, 6, none⟩ = some (.bool ob) := cell_of_heap HD9.out 6
          have p7 : World.cell? w9 ⟨w5.heap.size, 7, none⟩ = some (.int .i64 mo) := cell_of_heap HB9.out 7
          have r7 : World.cell? w9 ⟨w8.heap.size, 7, none⟩ = some (.int .i64 mo) := cell_of_heap HD9.out 7
          have p8 : World.cell? w9 ⟨w5.heap.size, 8, none⟩ = some (.bool ma) := cell_of_heap HB9.out 8
          have r8 : World.cell? w9 ⟨w8.heap.size, 8, none⟩ = some (.bool ma) := cell_of_heap HD9.out 8
          have p9 : World.cell? w9 ⟨w5.heap.size, 9, none⟩ = some (.bool ba) := cell_of_heap HB9.out 9
          have r9 : World.cell? w9 ⟨w8.heap.size, 9, none⟩ = some (.bool ba) := cell_of_heap HD9.out 9
          have p10 : World.cell? w9 ⟨w5.heap.size, 10, none⟩ = some (.int .i64 ro) := cell_of_heap HB9.out 10
          have r10 : World.cell? w9 ⟨w8.heap.size, 10, none⟩ = some (.int .i64 ro) := cell_of_heap HD9.out 10
          have p11 : World.cell? w9 ⟨w5.heap.size, 11, none⟩ = some (.slice A5 tr.length c5) := cell_of_heap HB9.out 11
          have r11 : World.cell? w9 ⟨w8.heap.size, 11, none⟩ = some (.slice A8 tr.length c8) := cell_of_heap HD9.out 11
          cases s2 with
          | false =>
            have hd9 := frozen_of_heap HD9.out 4
            go_upto_region 24 with fail
            obtain ⟨w10, hw10⟩ : ∃ w10, w10 = w9.setCell ⟨w8.heap.size, 4, none⟩ (.bool su) := ⟨_, rfl⟩
            have hO : Only w8.heap.size w9 w10 := by rw [hw10]; exact set_only _ _ _ _
            have B10 := bonly B9 hO S8.out
            have HB10 := Aside0.mk (heap_only hO (Nat.ne_of_lt HLT8.out) HB9.out)
            have R10 : Kd.R k48 48 w10 w3.heap.size (fun k => w3.heap.size ≤ k) (.slice A5 tr.length c5) tr := by rw [hw10]; exact R_set36 R9.out HD9.out 4 _
            have Q10 := R_set36 Q9.out HD9.out 4 (.bool su)
            rw [← hw10] at Q10
            obtain ⟨-, h5, h6⟩ := Kd.R_reads' R10
            obtain ⟨-, h7, h8⟩ := Kd.R_reads' Q10
            have CC := Aside0.mk (And.intro (And.intro h5 h6) (And.intro h7 h8))
            have s0 : World.cell? w10 ⟨w8.heap.size, 0, none⟩ = some (.bool b0) := by rw [hw10, cell_set_ne _ (by decide)]; exact r0
            have s1 : World.cell? w10 ⟨w8.heap.size, 1, none⟩ = some (.bool b1) := by rw [hw10, cell_set_ne _ (by decide)]; exact r1
            have s2 : World.cell? w10 ⟨w8.heap.size, 2, none⟩ = some (.bool b2) := by rw [hw10, cell_set_ne _ (by decide)]; exact r2
            have s3 : World.cell? w10 ⟨w8.heap.size, 3, none⟩ = some (.bool b3) := by rw [hw10, cell_set_ne _ (by decide)]; exact r3
            have s4 : World.cell? w10 ⟨w8.heap.size, 4, none⟩ = some (.bool su) := by rw [hw10]; exact cell_set_eq _ HD9.out r4
            have s5 : World.cell? w10 ⟨w8.heap.size, 5, none⟩ = some (.bool la) := by rw [hw10, cell_set_ne _ (by decide)]; exact r5
            have s6 : World.cell? w10 ⟨w8.heap.size, 6, none⟩ = some (.bool ob) := by rw [hw10, cell_set_ne _ (by decide)]; exact r6
            have s7 : World.cell? w10 ⟨w8.heap.size, 7, none⟩ = some (.int .i64 mo) := by rw [hw10, cell_set_ne _ (by decide)]; exact r7
            have s8 : World.cell? w10 ⟨w8.heap.size, 8, none⟩ = some (.bool ma) := by rw [hw10, cell_set_ne _ (by decide)]; exact r8
            have s9 : World.cell? w10 ⟨w8.heap.size, 9, none⟩ = some (.bool ba) := by rw [hw10, cell_set_ne _ (by decide)]; exact r9
            have s10 : World.cell? w10 ⟨w8.heap.size, 10, none⟩ = some (.int .i64 ro) := by rw [hw10, cell_set_ne _ (by decide)]; exact r10
            have s11 : World.cell? w10 ⟨w8.heap.size, 11, none⟩ = some (.slice A8 tr.length c8) := by rw [hw10, cell_set_ne _ (by decide)]; exact r11
            clear p0 r0 p1 r1 p2 r2 p3 r3 p4 r4 p5 r5 p6 r6 p7 r7 p8 r8 p9 r9 p10 r10 p11 r11
            have p0 : World.cell? w10 ⟨w5.heap.size, 0, none⟩ = some (.bool b0) := cell_of_heap HB10.out 0
            have p1 : World.cell? w10 ⟨w5.heap.size, 1, none⟩ = some (.bool b1) := cell_of_heap HB10.out 1
            have p2 : World.cell? w10 ⟨w5.heap.size, 2, none⟩ = some (.bool b2) := cell_of_heap HB10.out 2
            have p3 : World.cell? w10 ⟨w5.heap.size, 3, none⟩ = some (.bool b3) := cell_of_heap HB10.out 3
            have p4 : World.cell? w10 ⟨w5.heap.size, 4, none⟩ = some (.bool su) := cell_of_heap HB10.out 4
            have p5 : World.cell? w10 ⟨w5.heap.size, 5, none⟩ = some (.bool la) := cell_of_heap HB10.out 5
            have p6 : World.cell? w10 ⟨w5.heap.size, 6, none⟩ = some (.bool ob) := cell_of_heap HB10.out 6
            have p7 : World.cell? w10 ⟨w5.heap.size, 7, none⟩ = some (.int .i64 mo) := cell_of_heap HB10.out 7
            have p8 : World.cell? w10 ⟨w5.heap.size, 8, none⟩ = some (.bool ma) := cell_of_heap HB10.out 8
            have p9 : World.cell? w10 ⟨w5.heap.size, 9, none⟩ = some (.bool ba) := cell_of_heap HB10.out 9
            have p10 : World.cell? w10 ⟨w5.heap.size, 10, none⟩ = some (.int .i64 ro) := cell_of_heap HB10.out 10
            have p11 : World.cell? w10 ⟨w5.heap.size, 11, none⟩ = some (.slice A5 tr.length c5) := cell_of_heap HB10.out 11
            rw [← hw10]
            clear hO h5 h6 h7 h8 R10 Q10 hw10 hd9
            go_wp2_with fail
            refine (Same_calls ⟨b0, b1, b2, b3, su, la, ob, mo, ma, ba, ro, tr⟩ A5 c5 A8 c8 w10 HTL.out CC.out.1.2 CC.out.1.1 CC.out.2.2 CC.out.2.1).mono ?_
            rintro e w11 ⟨rfl, hb⟩
            have B11 := Aside0.mk (below_thenB B10.out hb B10.out.size)
            clear hb
            go_wp2_with fail
            go_ret
            exact ⟨rfl, B11.out⟩
          | true =>
            have hn0 : decide (0 < n) = false := d0
            have hd9 := frozen_of_heap HD9.out 4
            go_upto_region 24 with fail
            obtain ⟨w10, hw10⟩ : ∃ w10, w10 = w9.setCell ⟨w8.heap.size, 4, none⟩ (.bool su) := ⟨_, rfl⟩
            have hO : Only w8.heap.size w9 w10 := by rw [hw10]; exact set_only _ _ _ _
            have B10 := bonly B9 hO S8.out
            have HB10 := Aside0.mk (heap_only hO (Nat.ne_of_lt HLT8.out) HB9.out)
            have R10 : Kd.R k48 48 w10 w3.heap.size (fun k => w3.heap.size ≤ k) (.slice A5 tr.length c5) tr := by rw [hw10]; exact R_set36 R9.out HD9.out 4 _
            have Q10 := R_set36 Q9.out HD9.out 4 (.bool su)
            rw [← hw10] at Q10
            obtain ⟨-, h5, h6⟩ := Kd.R_reads' R10
            obtain ⟨-, h7, h8⟩ := Kd.R_reads' Q10
            have CC := Aside0.mk (And.intro (And.intro h5 h6) (And.intro h7 h8))
            have s0 : World.cell? w10 ⟨w8.heap.size, 0, none⟩ = some (.bool b0) := by rw [hw10, cell_set_ne _ (by decide)]; exact r0
            have s1 : World.cell? w10 ⟨w8.heap.size, 1, none⟩ = some (.bool b1) := by rw [hw10, cell_set_ne _ (by decide)]; exact r1
            have s2 : World.cell? w10 ⟨w8.heap.size, 2, none⟩ = some (.bool b2) := by rw [hw10, cell_set_ne _ (by decide)]; exact r2
            have s3 : World.cell? w10 ⟨w8.heap.size, 3, none⟩ = some (.bool b3) := by rw [hw10, cell_set_ne _ (by decide)]; exact r3
            have s4 : World.cell? w10 ⟨w8.heap.size, 4, none⟩ = some (.bool su) := by rw [hw10]; exact cell_set_eq _ HD9.out r4
            have s5 : World.cell? w10 ⟨w8.heap.size, 5, none⟩ = some (.bool la) := by rw [hw10, cell_set_ne _ (by decide)]; exact r5
            have s6 : World.cell? w10 ⟨w8.heap.size, 6, none⟩ = some (.bool ob) := by rw [hw10, cell_set_ne _ (by decide)]; exact r6
            have s7 : World.cell? w10 ⟨w8.heap.size, 7, none⟩ = some (.int .i64 mo) := by rw [hw10, cell_set_ne _ (by decide)]; exact r7
            have s8 : World.cell? w10 ⟨w8.heap.size, 8, none⟩ = some (.bool ma) := by rw [hw10, cell_set_ne _ (by decide)]; exact r8
            have s9 : World.cell? w10 ⟨w8.heap.size, 9, none⟩ = some (.bool ba) := by rw [hw10, cell_set_ne _ (by decide)]; exact r9
            have s10 : World.cell? w10 ⟨w8.heap.size, 10, none⟩ = some (.int .i64 ro) := by rw [hw10, cell_set_ne _ (by decide)]; exact r10
            have s11 : World.cell? w10 ⟨w8.heap.size, 11, none⟩ = some (.slice A8 tr.length c8) := by rw [hw10, cell_set_ne _ (by decide)]; exact r11
            clear p0 r0 p1 r1 p2 r2 p3 r3 p4 r4 p5 r5 p6 r6 p7 r7 p8 r8 p9 r9 p10 r10 p11 r11
            have p0 : World.cell? w10 ⟨w5.heap.size, 0, none⟩ = some (.bool b0) := cell_of_heap HB10.out 0
            have p1 : World.cell? w10 ⟨w5.heap.size, 1, none⟩ = some (.bool b1) := cell_of_heap HB10.out 1
            have p2 : World.cell? w10 ⟨w5.heap.size, 2, none⟩ = some (.bool b2) := cell_of_heap HB10.out 2
            have p3 : World.cell? w10 ⟨w5.heap.size, 3, none⟩ = some (.bool b3) := cell_of_heap HB10.out 3
            have p4 : World.cell? w10 ⟨w5.heap.size, 4, none⟩ = some (.bool su) := cell_of_heap HB10.out 4
            have p5 : World.cell? w10 ⟨w5.heap.size, 5, none⟩ = some (.bool la) := cell_of_heap HB10.out 5
            have p6 : World.cell? w10 ⟨w5.heap.size, 6, none⟩ = some (.bool ob) := cell_of_heap HB10.out 6
            have p7 : World.cell? w10 ⟨w5.heap.size, 7, none⟩ = some (.int .i64 mo) := cell_of_heap HB10.out 7
            have p8 : World.cell? w10 ⟨w5.heap.size, 8, none⟩ = some (.bool ma) := cell_of_heap HB10.out 8
            have p9 : World.cell? w10 ⟨w5.heap.size, 9, none⟩ = some (.bool ba) := cell_of_heap HB10.out 9
            have p10 : World.cell? w10 ⟨w5.heap.size, 10, none⟩ = some (.int .i64 ro) := cell_of_heap HB10.out 10
            have p11 : World.cell? w10 ⟨w5.heap.size, 11, none⟩ = some (.slice A5 tr.length c5) := cell_of_heap HB10.out 11
            rw [← hw10]
            clear hO h5 h6 h7 h8 R10 Q10 hw10 hd9
            go_wp2_with fail
            refine (Same_calls ⟨b0, b1, b2, b3, su, la, ob, mo, ma, ba, ro, tr⟩ A5 c5 A8 c8 w10 HTL.out CC.out.1.2 CC.out.1.1 CC.out.2.2 CC.out.2.1).mono ?_
            rintro e w11 ⟨rfl, hb⟩
            have B11 := Aside0.mk (below_thenB B10.out hb B10.out.size)
            clear hb
            go_wp2_with fail
            go_ret
            exact ⟨rfl, B11.out⟩
set_option maxHeartbeats 16000000 in
set_option maxRecDepth 100000 in
theorem ilost_bad (i : Inp) (A : Option Addr) (c : Nat) (f n : Int) (w : World) (hC : Kd.C k48 w A i.tracks.length i.tracks) (hcc : i.tracks.length ≤ c) (hg : Gerr w) (hb : ¬ ((1 ≤ i.tracks.length ∧ i.tracks.length ≤ 8) ∧ (1 ≤ f ∧ f ≤ 300) ∧ 0 ≤ n ∧ n ≤ f)) : Calls Tryd.prog 8 #[i.val (.slice A i.tracks.length c), .int .i64 f, .int .i64 n] w fun e w' => e = .returned (.bool true) ∧ Below w.heap.size w w' := by
  have HC := Aside0.mk hC
  have HCC := Aside0.mk hcc
  have HG := Aside0.mk hg
  clear hC hcc hg
  by_cases c0 : (i.tracks.length : Int) < 1
  · have d0 : decide ((i.tracks.length : Int) < 1) = true := decide_eq_true c0
    clear hb c0
    unfold Inp.val
    go_enter Tryd.func8, Tryd.ntmps8
    go_wp2_with fail
    obtain ⟨w0, hw0⟩ : ∃ w0, w0 = w.alloc (.cells #[.bool i.b0, .bool i.b1, .bool i.b2, .bool i.b3, .bool i.sure, .bool i.lamps, .bool i.obst, .int .i64 i.mode, .bool i.mains, .bool i.batt, .int .i64 i.routes, .slice A i.tracks.length c] 36) := ⟨_, rfl⟩
    have hb0 : Below w.heap.size w w0 := by rw [hw0]; exact below_alloc (Below.refl _ _) _
    have HX0 : w0.heap[w.heap.size]? = some (.cells #[.bool i.b0, .bool i.b1, .bool i.b2, .bool i.b3, .bool i.sure, .bool i.lamps, .bool i.obst, .int .i64 i.mode, .bool i.mains, .bool i.batt, .int .i64 i.routes, .slice A i.tracks.length c] 36 (0, 0)) := by rw [hw0]; exact heap_new _ _
    rw [← hw0]
    refine (small_calls w0 (HG.out.below ⟨hb0⟩)).mono ?_
    rintro e w1 ⟨rfl, hb⟩
    have B1 := Aside0.mk (below_thenB hb0 hb hb0.size)
    have HX1 := Aside0.mk (heap_below ⟨hb⟩ HX0)
    have C1 := Aside0.mk (Kd.C_below HC.out B1.out)
    clear hw0 hb0 HX0 hb HC
    have q11 : World.cell? w1 ⟨w.heap.size, 11, none⟩ = some (.slice A i.tracks.length c) := cell_of_heap HX1.out 11
    go_wp2_with fail
    go_ret
    exact ⟨rfl, B1.out⟩
  have d0 : decide ((i.tracks.length : Int) < 1) = false := decide_eq_false c0
  by_cases c1 : (8 : Int) < (i.tracks.length : Int)
  · have d1 : decide ((8 : Int) < (i.tracks.length : Int)) = true := decide_eq_true c1
    clear hb c1
    unfold Inp.val
    go_enter Tryd.func8, Tryd.ntmps8
    go_wp2_with fail
    obtain ⟨w0, hw0⟩ : ∃ w0, w0 = w.alloc (.cells #[.bool i.b0, .bool i.b1, .bool i.b2, .bool i.b3, .bool i.sure, .bool i.lamps, .bool i.obst, .int .i64 i.mode, .bool i.mains, .bool i.batt, .int .i64 i.routes, .slice A i.tracks.length c] 36) := ⟨_, rfl⟩
    have hb0 : Below w.heap.size w w0 := by rw [hw0]; exact below_alloc (Below.refl _ _) _
    have HX0 : w0.heap[w.heap.size]? = some (.cells #[.bool i.b0, .bool i.b1, .bool i.b2, .bool i.b3, .bool i.sure, .bool i.lamps, .bool i.obst, .int .i64 i.mode, .bool i.mains, .bool i.batt, .int .i64 i.routes, .slice A i.tracks.length c] 36 (0, 0)) := by rw [hw0]; exact heap_new _ _
    rw [← hw0]
    refine (small_calls w0 (HG.out.below ⟨hb0⟩)).mono ?_
    rintro e w1 ⟨rfl, hb⟩
    have B1 := Aside0.mk (below_thenB hb0 hb hb0.size)
    have HX1 := Aside0.mk (heap_below ⟨hb⟩ HX0)
    have C1 := Aside0.mk (Kd.C_below HC.out B1.out)
    clear hw0 hb0 HX0 hb HC
    have q11 : World.cell? w1 ⟨w.heap.size, 11, none⟩ = some (.slice A i.tracks.length c) := cell_of_heap HX1.out 11
    go_wp2_with fail
    go_ret
    exact ⟨rfl, B1.out⟩
  have d1 : decide ((8 : Int) < (i.tracks.length : Int)) = false := decide_eq_false c1
  by_cases c2 : f < 1
  · have d2 : decide (f < 1) = true := decide_eq_true c2
    clear hb c2
    unfold Inp.val
    go_enter Tryd.func8, Tryd.ntmps8
    go_wp2_with fail
    obtain ⟨w0, hw0⟩ : ∃ w0, w0 = w.alloc (.cells #[.bool i.b0, .bool i.b1, .bool i.b2, .bool i.b3, .bool i.sure, .bool i.lamps, .bool i.obst, .int .i64 i.mode, .bool i.mains, .bool i.batt, .int .i64 i.routes, .slice A i.tracks.length c] 36) := ⟨_, rfl⟩
    have hb0 : Below w.heap.size w w0 := by rw [hw0]; exact below_alloc (Below.refl _ _) _
    have HX0 : w0.heap[w.heap.size]? = some (.cells #[.bool i.b0, .bool i.b1, .bool i.b2, .bool i.b3, .bool i.sure, .bool i.lamps, .bool i.obst, .int .i64 i.mode, .bool i.mains, .bool i.batt, .int .i64 i.routes, .slice A i.tracks.length c] 36 (0, 0)) := by rw [hw0]; exact heap_new _ _
    rw [← hw0]
    refine (small_calls w0 (HG.out.below ⟨hb0⟩)).mono ?_
    rintro e w1 ⟨rfl, hb⟩
    have B1 := Aside0.mk (below_thenB hb0 hb hb0.size)
    have HX1 := Aside0.mk (heap_below ⟨hb⟩ HX0)
    have C1 := Aside0.mk (Kd.C_below HC.out B1.out)
    clear hw0 hb0 HX0 hb HC
    have q11 : World.cell? w1 ⟨w.heap.size, 11, none⟩ = some (.slice A i.tracks.length c) := cell_of_heap HX1.out 11
    go_wp2_with fail
    go_ret
    exact ⟨rfl, B1.out⟩
  have d2 : decide (f < 1) = false := decide_eq_false c2
  by_cases c3 : 300 < f
  · have d3 : decide (300 < f) = true := decide_eq_true c3
    clear hb c3
    unfold Inp.val
    go_enter Tryd.func8, Tryd.ntmps8
    go_wp2_with fail
    obtain ⟨w0, hw0⟩ : ∃ w0, w0 = w.alloc (.cells #[.bool i.b0, .bool i.b1, .bool i.b2, .bool i.b3, .bool i.sure, .bool i.lamps, .bool i.obst, .int .i64 i.mode, .bool i.mains, .bool i.batt, .int .i64 i.routes, .slice A i.tracks.length c] 36) := ⟨_, rfl⟩
    have hb0 : Below w.heap.size w w0 := by rw [hw0]; exact below_alloc (Below.refl _ _) _
    have HX0 : w0.heap[w.heap.size]? = some (.cells #[.bool i.b0, .bool i.b1, .bool i.b2, .bool i.b3, .bool i.sure, .bool i.lamps, .bool i.obst, .int .i64 i.mode, .bool i.mains, .bool i.batt, .int .i64 i.routes, .slice A i.tracks.length c] 36 (0, 0)) := by rw [hw0]; exact heap_new _ _
    rw [← hw0]
    refine (small_calls w0 (HG.out.below ⟨hb0⟩)).mono ?_
    rintro e w1 ⟨rfl, hb⟩
    have B1 := Aside0.mk (below_thenB hb0 hb hb0.size)
    have HX1 := Aside0.mk (heap_below ⟨hb⟩ HX0)
    have C1 := Aside0.mk (Kd.C_below HC.out B1.out)
    clear hw0 hb0 HX0 hb HC
    have q11 : World.cell? w1 ⟨w.heap.size, 11, none⟩ = some (.slice A i.tracks.length c) := cell_of_heap HX1.out 11
    go_wp2_with fail
    go_ret
    exact ⟨rfl, B1.out⟩
  have d3 : decide (300 < f) = false := decide_eq_false c3
  by_cases c4 : n < 0
  · have d4 : decide (n < 0) = true := decide_eq_true c4
    clear hb c4
    unfold Inp.val
    go_enter Tryd.func8, Tryd.ntmps8
    go_wp2_with fail
    obtain ⟨w0, hw0⟩ : ∃ w0, w0 = w.alloc (.cells #[.bool i.b0, .bool i.b1, .bool i.b2, .bool i.b3, .bool i.sure, .bool i.lamps, .bool i.obst, .int .i64 i.mode, .bool i.mains, .bool i.batt, .int .i64 i.routes, .slice A i.tracks.length c] 36) := ⟨_, rfl⟩
    have hb0 : Below w.heap.size w w0 := by rw [hw0]; exact below_alloc (Below.refl _ _) _
    have HX0 : w0.heap[w.heap.size]? = some (.cells #[.bool i.b0, .bool i.b1, .bool i.b2, .bool i.b3, .bool i.sure, .bool i.lamps, .bool i.obst, .int .i64 i.mode, .bool i.mains, .bool i.batt, .int .i64 i.routes, .slice A i.tracks.length c] 36 (0, 0)) := by rw [hw0]; exact heap_new _ _
    rw [← hw0]
    refine (small_calls w0 (HG.out.below ⟨hb0⟩)).mono ?_
    rintro e w1 ⟨rfl, hb⟩
    have B1 := Aside0.mk (below_thenB hb0 hb hb0.size)
    have HX1 := Aside0.mk (heap_below ⟨hb⟩ HX0)
    have C1 := Aside0.mk (Kd.C_below HC.out B1.out)
    clear hw0 hb0 HX0 hb HC
    have q11 : World.cell? w1 ⟨w.heap.size, 11, none⟩ = some (.slice A i.tracks.length c) := cell_of_heap HX1.out 11
    go_wp2_with fail
    go_ret
    exact ⟨rfl, B1.out⟩
  have d4 : decide (n < 0) = false := decide_eq_false c4
  by_cases c5 : f < n
  · have d5 : decide (f < n) = true := decide_eq_true c5
    clear hb c5
    unfold Inp.val
    go_enter Tryd.func8, Tryd.ntmps8
    go_wp2_with fail
    obtain ⟨w0, hw0⟩ : ∃ w0, w0 = w.alloc (.cells #[.bool i.b0, .bool i.b1, .bool i.b2, .bool i.b3, .bool i.sure, .bool i.lamps, .bool i.obst, .int .i64 i.mode, .bool i.mains, .bool i.batt, .int .i64 i.routes, .slice A i.tracks.length c] 36) := ⟨_, rfl⟩
    have hb0 : Below w.heap.size w w0 := by rw [hw0]; exact below_alloc (Below.refl _ _) _
    have HX0 : w0.heap[w.heap.size]? = some (.cells #[.bool i.b0, .bool i.b1, .bool i.b2, .bool i.b3, .bool i.sure, .bool i.lamps, .bool i.obst, .int .i64 i.mode, .bool i.mains, .bool i.batt, .int .i64 i.routes, .slice A i.tracks.length c] 36 (0, 0)) := by rw [hw0]; exact heap_new _ _
    rw [← hw0]
    refine (small_calls w0 (HG.out.below ⟨hb0⟩)).mono ?_
    rintro e w1 ⟨rfl, hb⟩
    have B1 := Aside0.mk (below_thenB hb0 hb hb0.size)
    have HX1 := Aside0.mk (heap_below ⟨hb⟩ HX0)
    have C1 := Aside0.mk (Kd.C_below HC.out B1.out)
    clear hw0 hb0 HX0 hb HC
    have q11 : World.cell? w1 ⟨w.heap.size, 11, none⟩ = some (.slice A i.tracks.length c) := cell_of_heap HX1.out 11
    go_wp2_with fail
    go_ret
    exact ⟨rfl, B1.out⟩
  have d5 : decide (f < n) = false := decide_eq_false c5
  exact absurd (show _ from ⟨⟨by omega, by omega⟩, ⟨by omega, by omega⟩, by omega, by omega⟩) hb
theorem ilost_walk (i : Inp) (A : Option Addr) (c : Nat) (f n : Int) (w : World) (hC : Kd.C k48 w A i.tracks.length i.tracks) (hl : i.tracks.length ≤ c) (_ : (Lit.int .i64 f).wf = true) (_ : (Lit.int .i64 n).wf = true) (hg : Gerr w) : Calls Tryd.prog 8 #[i.val (.slice A i.tracks.length c), .int .i64 f, .int .i64 n] w fun e w' => e = .returned (.bool true) ∧ Below w.heap.size w w' := by
  by_cases h : (1 ≤ i.tracks.length ∧ i.tracks.length ≤ 8) ∧ (1 ≤ f ∧ f ≤ 300) ∧ 0 ≤ n ∧ n ≤ f
  · exact ilost_calls0 i A c f n w hC hl hg h.1 h.2.1 h.2.2
  · exact ilost_bad i A c f n w hC hl hg h
end Go.Proofs.YtfijlaahifeimaaDoor.PE
