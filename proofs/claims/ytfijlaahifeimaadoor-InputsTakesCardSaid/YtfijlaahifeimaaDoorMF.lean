/- inputs: the reference's Now. -/
import Derived.Test.YtfijlaahifeimaaDoorME
import Derived.Test.YtfijlaahifeimaaDoorMK
import Derived.Test.YtfijlaahifeimaaDoorMJ
namespace Go.Proofs.YtfijlaahifeimaaDoor.PE
open Go.RowKit Go.Extern.Stop Go.Stop Go.Extern Go.Proofs.YtfijlaahifeimaaDoorW.PrintWords Go.Proofs.YtfijlaahifeimaaDoorW.PrintLast Go.Proofs.YtfijlaahifeimaaDoorW.PrintMore Go.Proofs.YtfijlaahifeimaaDoor.PS
set_option linter.unusedVariables false
set_option linter.unusedSimpArgs false
theorem RK.only2 {W W' : World} {g b : Nat} {F : Int} {ok : Nat → Prop} {st : Nat → LinkV} (h : RK W g F ok st) (hO : Only b W W') (hb : g ≠ b) (ho : ∀ k, ok k → k ≠ b) : RK W' g F ok st :=
  h.step (hO.block g h.lt hb) (fun k hk hl => hO.block k hl (ho k hk))
/-- What the reference takes the outer world to be. -/
def nowR (F : Int) (st : Nat → LinkV) (n : Nat) : Inp := nowOf (dataR F st) (isR F st) ((atR F st 0).had && ((atR F st 0).age == 0)) n
def BytesR (st : Nat → LinkV) : Prop := ∀ i, i < 16 → ∀ x ∈ (st i).data, (Lit.int .u8 x).wf = true
theorem dataR_wf {F : Int} {st : Nat → LinkV} (h : BytesR st) (ch : Int) : ∀ x ∈ dataR F st ch, (Lit.int .u8 x).wf = true := by
  intro x hx
  unfold dataR at hx
  cases hi : isR F st ch with
  | false => rw [hi] at hx; simp at hx
  | true =>
    rw [hi] at hx
    have hc : 0 ≤ ch ∧ ch ≤ 15 := by
      unfold isR at hi
      exact of_decide_eq_true (Bool.and_eq_true_iff.1 hi).1
    exact h ch.toNat (by omega) x hx
/-- The first k of six rows, six truths, in memory. -/
def rowsB (F : Int) (st : Nat → LinkV) (A : Nat → Option Addr) (c : Nat → Nat) (k : Nat) : Array Value := ((List.range 6).map fun j => if j < k then Value.slice (A j) (dataR F st (j : Int)).length (c j) else Value.slice none 0 0).toArray
def rowsO (F : Int) (st : Nat → LinkV) (k : Nat) : Array Value := ((List.range 6).map fun j => if j < k then Value.bool (isR F st (j : Int)) else Value.bool false).toArray
theorem rowsB_set (F : Int) (st : Nat → LinkV) (A : Nat → Option Addr) (c : Nat → Nat) (k : Nat) (hk : k < 6) (A' : Option Addr) (c' : Nat) :
    (rowsB F st A c k).setIfInBounds k (.slice A' (dataR F st (k : Int)).length c') = rowsB F st (fun j => if j = k then A' else A j) (fun j => if j = k then c' else c j) (k + 1) := by
  have : k = 0 ∨ k = 1 ∨ k = 2 ∨ k = 3 ∨ k = 4 ∨ k = 5 := by omega
  rcases this with rfl | rfl | rfl | rfl | rfl | rfl <;> rfl
theorem rowsO_set (F : Int) (st : Nat → LinkV) (k : Nat) (hk : k < 6) : (rowsO F st k).setIfInBounds k (.bool (isR F st (k : Int))) = rowsO F st (k + 1) := by
  have : k = 0 ∨ k = 1 ∨ k = 2 ∨ k = 3 ∨ k = 4 ∨ k = 5 := by omega
  rcases this with rfl | rfl | rfl | rfl | rfl | rfl <;> rfl
theorem rowsB_at (F : Int) (st : Nat → LinkV) (A : Nat → Option Addr) (c : Nat → Nat) (k j : Nat) (hj : j < 6) : ∃ u, (rowsB F st A c k)[j]? = some u := by
  refine ⟨_, Array.getElem?_eq_getElem (by simp [rowsB]; omega)⟩
theorem rowsO_at (F : Int) (st : Nat → LinkV) (k j : Nat) (hj : j < 6) : ∃ u, (rowsO F st k)[j]? = some u := by
  refine ⟨_, Array.getElem?_eq_getElem (by simp [rowsO]; omega)⟩
set_option maxHeartbeats 8000000 in
set_option maxRecDepth 100000 in
theorem RNow_calls {x g : Nat} {F : Int} {n : Nat} {ok : Nat → Prop} {st : Nat → LinkV} (w : World) (hx : w.heap[x]? = some (.cells #[.pointer (some ⟨g, 0, none⟩), .int .i64 n] 62 (0, 0))) (h : RK w g F ok st) (hby : BytesR st) (h1 : 1 ≤ n ∧ n ≤ 8) :
    Calls Tryd.prog 17 #[.pointer (some ⟨x, 0, none⟩)] w fun e w' => ∃ v, e = .returned ((nowR F st n).val v) ∧ Kd.R k48 48 w' w.heap.size (fun _ => True) v (nowR F st n).tracks ∧ Below w.heap.size w w' := by
  have HL := Aside0.mk h.bound
  have HXX := Aside0.mk hx
  have HLX := Aside0.mk (heap_lt hx)
  have HLG := Aside0.mk h.lt
  have HBY := Aside0.mk hby
  have HK := Aside0.mk h1
  have HI : Aside0 (nowR F st n = nowOf (dataR F st) (isR F st) ((atR F st 0).had && ((atR F st 0).age == 0)) n) := ⟨rfl⟩
  generalize nowR F st n = I at HI
  clear hx h hby h1
  go_enter Tryd.func17, Tryd.ntmps17
  go_wp2_with fail
  obtain ⟨w0, hw0⟩ : ∃ w0, w0 = ((w.alloc (.cells #[.bool false, .bool false, .bool false, .bool false, .bool false, .bool false, .bool false, .int .i64 0, .bool false, .bool false, .int .i64 0, .slice none 0 0] 36)).alloc (.cells #[.slice none 0 0, .slice none 0 0, .slice none 0 0, .slice none 0 0, .slice none 0 0, .slice none 0 0] 75)).alloc (.cells #[.bool false, .bool false, .bool false, .bool false, .bool false, .bool false] 76) := ⟨_, rfl⟩
  have B0 : Aside0 (Below w.heap.size w w0) := ⟨by rw [hw0]; exact below_alloc (below_alloc (below_alloc (Below.refl _ _) _) _) _⟩
  have HA0 : Aside0 (w0.heap[w.heap.size]? = some (.cells #[.bool false, .bool false, .bool false, .bool false, .bool false, .bool false, .bool false, .int .i64 0, .bool false, .bool false, .int .i64 0, .slice none 0 0] 36 (0, 0))) := ⟨by rw [hw0]; exact blk_alloc (blk_alloc (heap_new w _) _) _⟩
  have HB0 : Aside0 (w0.heap[w.heap.size + 1]? = some (.cells (rowsB F st (fun _ => none) (fun _ => 0) 0) 75 (0, 0))) := ⟨by
    rw [hw0]
    have hs : (w.alloc (.cells #[.bool false, .bool false, .bool false, .bool false, .bool false, .bool false, .bool false, .int .i64 0, .bool false, .bool false, .int .i64 0, .slice none 0 0] 36)).heap.size = w.heap.size + 1 := by simp
    rw [← hs]; exact blk_alloc (heap_new _ _) _⟩
  have HO0 : Aside0 (w0.heap[w.heap.size + 2]? = some (.cells (rowsO F st 0) 76 (0, 0))) := ⟨by
    rw [hw0]
    have hs : ((w.alloc (.cells #[.bool false, .bool false, .bool false, .bool false, .bool false, .bool false, .bool false, .int .i64 0, .bool false, .bool false, .int .i64 0, .slice none 0 0] 36)).alloc (.cells #[.slice none 0 0, .slice none 0 0, .slice none 0 0, .slice none 0 0, .slice none 0 0, .slice none 0 0] 75)).heap.size = w.heap.size + 2 := by simp
    rw [← hs]; exact heap_new _ _⟩
  have L0 := Aside0.mk (HL.out.below B0.out)
  have HX0 := Aside0.mk (heap_below B0 HXX.out)
  rw [← hw0]
  clear hw0 HL HXX
  go_loopw [5] (fun i W => ∃ (k : Nat) (A : Nat → Option Addr) (c : Nat → Nat), k ≤ 6 ∧ i = .int .i64 k ∧ Aside0 (RK W g F (fun k => ok k ∧ k < w.heap.size) st) ∧ Aside0 (W.heap[x]? = some (.cells #[.pointer (some ⟨g, 0, none⟩), .int .i64 n] 62 (0, 0))) ∧ Aside0 (W.heap[w.heap.size]? = some (.cells #[.bool false, .bool false, .bool false, .bool false, .bool false, .bool false, .bool false, .int .i64 0, .bool false, .bool false, .int .i64 0, .slice none 0 0] 36 (0, 0))) ∧ Aside0 (Below w.heap.size w W) ∧ Aside0 (W.heap[w.heap.size + 1]? = some (.cells (rowsB F st A c k) 75 (0, 0))) ∧ Aside0 (W.heap[w.heap.size + 2]? = some (.cells (rowsO F st k) 76 (0, 0))) ∧ Aside0 (∀ j : Nat, j < k → Kd.R (Kd.int .u8) 5 W (w.heap.size + 3) (fun m => w.heap.size + 3 ≤ m) (.slice (A j) (dataR F st (j : Int)).length (c j)) (dataR F st (j : Int)))) (fun i _ => 6 - (intOf i).toNat)
  case atStart => exact ⟨0, _, _, by omega, rfl, L0, HX0, HA0, B0, HB0, HO0, ⟨fun j hj => absurd hj (by omega)⟩⟩
  case round =>
    obtain ⟨k, A, c, hk, rfl, LR, HXR, HAR, BR, HBR, HOR, RR⟩ := hrel
    by_cases hlt : (k : Int) < 6
    · have dk : decide ((k : Int) < 6) = true := decide_eq_true hlt
      have k0 : World.cell? wr ⟨x, 0, none⟩ = some (.pointer (some ⟨g, 0, none⟩)) := cell_of_heap HXR.out 0
      have hk1 : (k : Int) + 1 ≤ 6 := by omega
      go_wp2_with fail
      clear k0
      refine (RFresh_calls wr LR.out (k : Int)).mono ?_
      rintro e wa ⟨va, rfl, hR, hb⟩
      obtain ⟨A', c', rfl, hca, -⟩ := Kd.R_reads hR
      have Ba := Aside0.mk (below_thenB BR.out hb BR.out.size)
      have La := Aside0.mk (LR.out.below hb)
      have HAa := Aside0.mk (heap_below ⟨hb⟩ HAR.out)
      have HXa := Aside0.mk (heap_below ⟨hb⟩ HXR.out)
      have HBa := Aside0.mk (heap_below ⟨hb⟩ HBR.out)
      have HOa := Aside0.mk (heap_below ⟨hb⟩ HOR.out)
      have RA := Aside0.mk hR
      have HSZ := Aside0.mk (show w.heap.size + 3 ≤ wr.heap.size by have := heap_lt HOR.out; omega)
      have RB : Aside0 (∀ j : Nat, j < k → Kd.R (Kd.int .u8) 5 wa (w.heap.size + 3) (fun m => w.heap.size + 3 ≤ m) (.slice (A j) (dataR F st (j : Int)).length (c j)) (dataR F st (j : Int))) := ⟨fun j hj => Kd.R_below (RR.out j hj) hb⟩
      clear hR hb
      obtain ⟨uB, hub⟩ := rowsB_at F st A c k k (by omega)
      obtain ⟨uO, huo⟩ := rowsO_at F st k k (by omega)
      have qb : World.cell? wa ⟨w.heap.size + 1, k, none⟩ = some uB := (cell_of_heap HBa.out k).trans hub
      have qo : World.cell? wa ⟨w.heap.size + 2, k, none⟩ = some uO := (cell_of_heap HOa.out k).trans huo
      have fb := frozen_of_heap HBa.out k
      have fo := frozen_of_heap HOa.out k
      clear hub huo
      go_wp2_with fail
      have O1 : Only (w.heap.size + 1) wa (wa.setCell ⟨w.heap.size + 1, k, none⟩ (.slice A' (dataR F st (k : Int)).length c')) := set_only _ _ _ _
      have O2 : Only (w.heap.size + 2) (wa.setCell ⟨w.heap.size + 1, k, none⟩ (.slice A' (dataR F st (k : Int)).length c')) ((wa.setCell ⟨w.heap.size + 1, k, none⟩ (.slice A' (dataR F st (k : Int)).length c')).setCell ⟨w.heap.size + 2, k, none⟩ (.bool (isR F st (k : Int)))) := set_only _ _ _ _
      have hlg := HLG.out
      have hlx := HLX.out
      have hsz := HSZ.out
      refine ⟨⟨k + 1, fun j => if j = k then A' else A j, fun j => if j = k then c' else c j, by omega, rfl, ⟨(La.out.only2 O1 (by omega) (fun j hj => by have := hj.2; omega)).only2 O2 (by omega) (fun j hj => by have := hj.2; omega)⟩, ⟨heap_only O2 (by omega) (heap_only O1 (by omega) HXa.out)⟩, ⟨heap_only O2 (by omega) (heap_only O1 (by omega) HAa.out)⟩, bonly (bonly Ba O1 (by omega)) O2 (by omega), ⟨heap_only O2 (by omega) ?_⟩, ⟨?_⟩, ⟨fun j hj => ?_⟩⟩, by simp [intOf]; omega⟩
      · rw [← rowsB_set F st A c k (by omega)]; exact blk_set HBa.out k _
      · rw [← rowsO_set F st k (by omega)]; exact blk_set (heap_only O1 (by omega) HOa.out) k _
      · have step : ∀ {v : Value} {l : List Int}, Kd.R (Kd.int .u8) 5 wa (w.heap.size + 3) (fun m => w.heap.size + 3 ≤ m) v l → Kd.R (Kd.int .u8) 5 ((wa.setCell ⟨w.heap.size + 1, k, none⟩ (.slice A' (dataR F st (k : Int)).length c')).setCell ⟨w.heap.size + 2, k, none⟩ (.bool (isR F st (k : Int)))) (w.heap.size + 3) (fun m => w.heap.size + 3 ≤ m) v l := fun hR =>
          Kd.R_step (Kd.R_step hR (fun m hm hl => O1.block m hl (by have h1 : w.heap.size + 3 ≤ m := hm; omega))) (fun m hm hl => O2.block m hl (by have h1 : w.heap.size + 3 ≤ m := hm; omega))
        by_cases hjk : j = k
        · subst hjk
          simp only [if_pos]
          exact step (Kd.R_mono (Kd.R_lower (R_from RA.out) hsz) (fun m hm => by have h1 : wr.heap.size ≤ m := hm; omega))
        · simp only [if_neg hjk]
          exact step (RB.out j (by omega))
    · have dk : decide ((k : Int) < 6) = false := decide_eq_false hlt
      have hk6 : k = 6 := by omega
      subst hk6
      have LS := LR
      have BS := BR
      have HXS := HXR
      have HAS := HAR
      have R0 := Aside0.mk (RR.out 0 (by omega))
      have R1 := Aside0.mk (RR.out 1 (by omega))
      have R2 := Aside0.mk (RR.out 2 (by omega))
      have R3 := Aside0.mk (RR.out 3 (by omega))
      have R4 := Aside0.mk (RR.out 4 (by omega))
      have R5 := Aside0.mk (RR.out 5 (by omega))
      have HBS : Aside0 (wr.heap[w.heap.size + 1]? = some (.cells #[.slice (A 0) (dataR F st 0).length (c 0), .slice (A 1) (dataR F st 1).length (c 1), .slice (A 2) (dataR F st 2).length (c 2), .slice (A 3) (dataR F st 3).length (c 3), .slice (A 4) (dataR F st 4).length (c 4), .slice (A 5) (dataR F st 5).length (c 5)] 75 (0, 0))) := HBR
      have HOS : Aside0 (wr.heap[w.heap.size + 2]? = some (.cells #[.bool (isR F st 0), .bool (isR F st 1), .bool (isR F st 2), .bool (isR F st 3), .bool (isR F st 4), .bool (isR F st 5)] 76 (0, 0))) := HOR
      have q4 : World.cell? wr ⟨w.heap.size + 1, 4, none⟩ = some (.slice (A 4) (dataR F st 4).length (c 4)) := cell_of_heap HBS.out 4
      have o4 : World.cell? wr ⟨w.heap.size + 2, 4, none⟩ = some (.bool (isR F st 4)) := cell_of_heap HOS.out 4
      clear LR BR HXR HAR HBR HOR RR
      go_wp2_with fail
      obtain ⟨-, hc4, hC4⟩ := Kd.R_reads' R4.out
      refine (crossbuckref13_Power.calls (A 4) (c 4) (dataR F st 4) (isR F st 4) _ _ wr hC4 hc4 (rPower_eq _ (dataR_wf HBY.out 4))).mono ?_
      rintro e wa ⟨rfl, hd⟩
      have hb := hd.below
      have Ba := Aside0.mk (below_thenB BS.out hb BS.out.size)
      have La := Aside0.mk (LS.out.below hb)
      have HAa := Aside0.mk (heap_below ⟨hb⟩ HAS.out)
      have HXa := Aside0.mk (heap_below ⟨hb⟩ HXS.out)
      have HBa := Aside0.mk (heap_below ⟨hb⟩ HBS.out)
      have HOa := Aside0.mk (heap_below ⟨hb⟩ HOS.out)
      have K0 := Aside0.mk (Kd.R_below R0.out hb)
      have K1 := Aside0.mk (Kd.R_below R1.out hb)
      have K2 := Aside0.mk (Kd.R_below R2.out hb)
      have K3 := Aside0.mk (Kd.R_below R3.out hb)
      have K4 := Aside0.mk (Kd.R_below R4.out hb)
      have K5 := Aside0.mk (Kd.R_below R5.out hb)
      clear hb LS BS HXS HAS HBS HOS R0 R1 R2 R3 R4 R5
      clear hd q4 o4 hc4 hC4
      go_upto_region 8 with fail
      have HSK : Aside0 (∀ W, Below wa.heap.size wa W → (fun W => W.cell? ⟨w.heap.size + 1, 0, none⟩ = some (.slice (A 0) (dataR F st 0).length (c 0)) ∧ W.cell? ⟨w.heap.size + 1, 1, none⟩ = some (.slice (A 1) (dataR F st 1).length (c 1)) ∧ W.cell? ⟨w.heap.size + 1, 2, none⟩ = some (.slice (A 2) (dataR F st 2).length (c 2)) ∧ W.cell? ⟨w.heap.size + 1, 3, none⟩ = some (.slice (A 3) (dataR F st 3).length (c 3)) ∧ W.cell? ⟨w.heap.size + 1, 5, none⟩ = some (.slice (A 5) (dataR F st 5).length (c 5)) ∧ W.cell? ⟨w.heap.size + 2, 0, none⟩ = some (.bool (isR F st 0)) ∧ W.cell? ⟨w.heap.size + 2, 1, none⟩ = some (.bool (isR F st 1)) ∧ W.cell? ⟨w.heap.size + 2, 2, none⟩ = some (.bool (isR F st 2)) ∧ W.cell? ⟨w.heap.size + 2, 3, none⟩ = some (.bool (isR F st 3)) ∧ W.cell? ⟨w.heap.size + 2, 5, none⟩ = some (.bool (isR F st 5)) ∧ W.cell? ⟨x, 1, none⟩ = some (.int .i64 n)) W) := ⟨fun W hW => ⟨cell_of_heap (heap_below ⟨hW⟩ HBa.out) 0, cell_of_heap (heap_below ⟨hW⟩ HBa.out) 1, cell_of_heap (heap_below ⟨hW⟩ HBa.out) 2, cell_of_heap (heap_below ⟨hW⟩ HBa.out) 3, cell_of_heap (heap_below ⟨hW⟩ HBa.out) 5, cell_of_heap (heap_below ⟨hW⟩ HOa.out) 0, cell_of_heap (heap_below ⟨hW⟩ HOa.out) 1, cell_of_heap (heap_below ⟨hW⟩ HOa.out) 2, cell_of_heap (heap_below ⟨hW⟩ HOa.out) 3, cell_of_heap (heap_below ⟨hW⟩ HOa.out) 5, cell_of_heap (heap_below ⟨hW⟩ HXa.out) 1⟩⟩
      go_cut [8] (fun p wx => ∃ gJ, p = .pointer (some ⟨gJ, 0, none⟩) ∧ Aside0 (wa.heap.size ≤ gJ) ∧ Aside0 (Below wa.heap.size wa wx) ∧ Aside0 (wx.heap[gJ]? = some (.cells #[.bool (sBar (dataR F st 0) (isR F st 0)).1, .bool (sBar (dataR F st 0) (isR F st 0)).2.1, .bool (sBar (dataR F st 0) (isR F st 0)).2.2.1, .bool (sBar (dataR F st 0) (isR F st 0)).2.2.2, .bool false, .bool (sLamps (dataR F st 1) (isR F st 1)), .bool (sObst (dataR F st 2) (isR F st 2)), .int .i64 (sMode (dataR F st 3) (isR F st 3)), .bool (sPower (dataR F st 4) (isR F st 4)).1, .bool (sPower (dataR F st 4) (isR F st 4)).2, .int .i64 (sRoutes (dataR F st 5) (isR F st 5) n), .slice none 0 0] 36 (0, 0))))
      case first =>
        have DD0 : Aside0 (Below wa.heap.size wa wa.drew) := ⟨below_drew (Below.refl _ _)⟩
        refine wp_region_last_drew (S := (fun W => W.cell? ⟨w.heap.size + 1, 0, none⟩ = some (.slice (A 0) (dataR F st 0).length (c 0)) ∧ W.cell? ⟨w.heap.size + 1, 1, none⟩ = some (.slice (A 1) (dataR F st 1).length (c 1)) ∧ W.cell? ⟨w.heap.size + 1, 2, none⟩ = some (.slice (A 2) (dataR F st 2).length (c 2)) ∧ W.cell? ⟨w.heap.size + 1, 3, none⟩ = some (.slice (A 3) (dataR F st 3).length (c 3)) ∧ W.cell? ⟨w.heap.size + 1, 5, none⟩ = some (.slice (A 5) (dataR F st 5).length (c 5)) ∧ W.cell? ⟨w.heap.size + 2, 0, none⟩ = some (.bool (isR F st 0)) ∧ W.cell? ⟨w.heap.size + 2, 1, none⟩ = some (.bool (isR F st 1)) ∧ W.cell? ⟨w.heap.size + 2, 2, none⟩ = some (.bool (isR F st 2)) ∧ W.cell? ⟨w.heap.size + 2, 3, none⟩ = some (.bool (isR F st 3)) ∧ W.cell? ⟨w.heap.size + 2, 5, none⟩ = some (.bool (isR F st 5)) ∧ W.cell? ⟨x, 1, none⟩ = some (.int .i64 n))) (ds := [33]) (by kernel_rfl) ?_ (fun hHeld => ?_)
        · exact HSK.out _ (below_drew (Below.refl _ _))
        generalize wa.drew = yd at DD0 hHeld ⊢
        refine wpAnyLast_take (i := 0) (oi := { dst := some 38, op := Go.Op.indexAddr 75 (Go.Operand.tmp 3) (Go.Operand.const (Go.Value.int Go.IntKind.i64 0)), type := 0, pos := "ref.go:39", after := #[], guard := none }) (v := ?vz1_0) rfl (by kernel_rfl) (by kernel_rfl) (by kernel_rfl) (by kernel_rfl) (by kernel_rfl) (fun _ _ _ h => h) (Or.inl ⟨by rfl, ?yz1_0⟩) (by assumption) ?rz1_0
        case yz1_0 => (((intro w hSw; (try dsimp only at hSw); go_simp) <;> with_reducible rfl))
        try simp only [put_]
        refine wpAnyLast_take (i := 1) (oi := { dst := some 39, op := Go.Op.load 44 (Go.Operand.tmp 38), type := 44, pos := "ref.go:39", after := #[{ on := 0, ground := Go.Ground.data }], guard := none }) (v := ?vz2_1) rfl (by kernel_rfl) (by kernel_rfl) (by kernel_rfl) (by kernel_rfl) (by kernel_rfl) (fun _ _ _ h => h) (Or.inl ⟨by rfl, ?yz2_1⟩) (by assumption) ?rz2_1
        case yz2_1 => (((intro w hSw; (try dsimp only at hSw); go_simp) <;> with_reducible rfl))
        try simp only [put_]
        refine wpAnyLast_take (i := 2) (oi := { dst := some 40, op := Go.Op.indexAddr 76 (Go.Operand.tmp 4) (Go.Operand.const (Go.Value.int Go.IntKind.i64 0)), type := 0, pos := "ref.go:39", after := #[], guard := none }) (v := ?vz3_2) rfl (by kernel_rfl) (by kernel_rfl) (by kernel_rfl) (by kernel_rfl) (by kernel_rfl) (fun _ _ _ h => h) (Or.inl ⟨by rfl, ?yz3_2⟩) (by assumption) ?rz3_2
        case yz3_2 => (((intro w hSw; (try dsimp only at hSw); go_simp) <;> with_reducible rfl))
        try simp only [put_]
        refine wpAnyLast_take (i := 3) (oi := { dst := some 41, op := Go.Op.load 4 (Go.Operand.tmp 40), type := 4, pos := "ref.go:39", after := #[{ on := 2, ground := Go.Ground.data }], guard := none }) (v := ?vz4_3) rfl (by kernel_rfl) (by kernel_rfl) (by kernel_rfl) (by kernel_rfl) (by kernel_rfl) (fun _ _ _ h => h) (Or.inl ⟨by rfl, ?yz4_3⟩) (by assumption) ?rz4_3
        case yz4_3 => (((intro w hSw; (try dsimp only at hSw); go_simp) <;> with_reducible rfl))
        try simp only [put_]
        refine wpAnyLast_take (i := 5) (oi := { dst := some 43, op := Go.Op.indexAddr 75 (Go.Operand.tmp 3) (Go.Operand.const (Go.Value.int Go.IntKind.i64 1)), type := 0, pos := "ref.go:39", after := #[], guard := none }) (v := ?vz5_5) rfl (by kernel_rfl) (by kernel_rfl) (by kernel_rfl) (by kernel_rfl) (by kernel_rfl) (fun _ _ _ h => h) (Or.inl ⟨by rfl, ?yz5_5⟩) (by assumption) ?rz5_5
        case yz5_5 => (((intro w hSw; (try dsimp only at hSw); go_simp) <;> with_reducible rfl))
        try simp only [put_]
        refine wpAnyLast_take (i := 6) (oi := { dst := some 44, op := Go.Op.load 44 (Go.Operand.tmp 43), type := 44, pos := "ref.go:39", after := #[{ on := 5, ground := Go.Ground.data }], guard := none }) (v := ?vz6_6) rfl (by kernel_rfl) (by kernel_rfl) (by kernel_rfl) (by kernel_rfl) (by kernel_rfl) (fun _ _ _ h => h) (Or.inl ⟨by rfl, ?yz6_6⟩) (by assumption) ?rz6_6
        case yz6_6 => (((intro w hSw; (try dsimp only at hSw); go_simp) <;> with_reducible rfl))
        try simp only [put_]
        refine wpAnyLast_take (i := 7) (oi := { dst := some 45, op := Go.Op.indexAddr 76 (Go.Operand.tmp 4) (Go.Operand.const (Go.Value.int Go.IntKind.i64 1)), type := 0, pos := "ref.go:39", after := #[], guard := none }) (v := ?vz7_7) rfl (by kernel_rfl) (by kernel_rfl) (by kernel_rfl) (by kernel_rfl) (by kernel_rfl) (fun _ _ _ h => h) (Or.inl ⟨by rfl, ?yz7_7⟩) (by assumption) ?rz7_7
        case yz7_7 => (((intro w hSw; (try dsimp only at hSw); go_simp) <;> with_reducible rfl))
        try simp only [put_]
        refine wpAnyLast_take (i := 8) (oi := { dst := some 46, op := Go.Op.load 4 (Go.Operand.tmp 45), type := 4, pos := "ref.go:39", after := #[{ on := 7, ground := Go.Ground.data }], guard := none }) (v := ?vz8_8) rfl (by kernel_rfl) (by kernel_rfl) (by kernel_rfl) (by kernel_rfl) (by kernel_rfl) (fun _ _ _ h => h) (Or.inl ⟨by rfl, ?yz8_8⟩) (by assumption) ?rz8_8
        case yz8_8 => (((intro w hSw; (try dsimp only at hSw); go_simp) <;> with_reducible rfl))
        try simp only [put_]
        refine wpAnyLast_take (i := 10) (oi := { dst := some 48, op := Go.Op.indexAddr 75 (Go.Operand.tmp 3) (Go.Operand.const (Go.Value.int Go.IntKind.i64 2)), type := 0, pos := "ref.go:39", after := #[], guard := none }) (v := ?vz9_10) rfl (by kernel_rfl) (by kernel_rfl) (by kernel_rfl) (by kernel_rfl) (by kernel_rfl) (fun _ _ _ h => h) (Or.inl ⟨by rfl, ?yz9_10⟩) (by assumption) ?rz9_10
        case yz9_10 => (((intro w hSw; (try dsimp only at hSw); go_simp) <;> with_reducible rfl))
        try simp only [put_]
        refine wpAnyLast_take (i := 11) (oi := { dst := some 49, op := Go.Op.load 44 (Go.Operand.tmp 48), type := 44, pos := "ref.go:39", after := #[{ on := 10, ground := Go.Ground.data }], guard := none }) (v := ?vz10_11) rfl (by kernel_rfl) (by kernel_rfl) (by kernel_rfl) (by kernel_rfl) (by kernel_rfl) (fun _ _ _ h => h) (Or.inl ⟨by rfl, ?yz10_11⟩) (by assumption) ?rz10_11
        case yz10_11 => (((intro w hSw; (try dsimp only at hSw); go_simp) <;> with_reducible rfl))
        try simp only [put_]
        refine wpAnyLast_take (i := 12) (oi := { dst := some 50, op := Go.Op.indexAddr 76 (Go.Operand.tmp 4) (Go.Operand.const (Go.Value.int Go.IntKind.i64 2)), type := 0, pos := "ref.go:39", after := #[], guard := none }) (v := ?vz11_12) rfl (by kernel_rfl) (by kernel_rfl) (by kernel_rfl) (by kernel_rfl) (by kernel_rfl) (fun _ _ _ h => h) (Or.inl ⟨by rfl, ?yz11_12⟩) (by assumption) ?rz11_12
        case yz11_12 => (((intro w hSw; (try dsimp only at hSw); go_simp) <;> with_reducible rfl))
        try simp only [put_]
        refine wpAnyLast_take (i := 13) (oi := { dst := some 51, op := Go.Op.load 4 (Go.Operand.tmp 50), type := 4, pos := "ref.go:39", after := #[{ on := 12, ground := Go.Ground.data }], guard := none }) (v := ?vz12_13) rfl (by kernel_rfl) (by kernel_rfl) (by kernel_rfl) (by kernel_rfl) (by kernel_rfl) (fun _ _ _ h => h) (Or.inl ⟨by rfl, ?yz12_13⟩) (by assumption) ?rz12_13
        case yz12_13 => (((intro w hSw; (try dsimp only at hSw); go_simp) <;> with_reducible rfl))
        try simp only [put_]
        refine wpAnyLast_take (i := 15) (oi := { dst := some 53, op := Go.Op.indexAddr 75 (Go.Operand.tmp 3) (Go.Operand.const (Go.Value.int Go.IntKind.i64 3)), type := 0, pos := "ref.go:39", after := #[], guard := none }) (v := ?vz13_15) rfl (by kernel_rfl) (by kernel_rfl) (by kernel_rfl) (by kernel_rfl) (by kernel_rfl) (fun _ _ _ h => h) (Or.inl ⟨by rfl, ?yz13_15⟩) (by assumption) ?rz13_15
        case yz13_15 => (((intro w hSw; (try dsimp only at hSw); go_simp) <;> with_reducible rfl))
        try simp only [put_]
        refine wpAnyLast_take (i := 16) (oi := { dst := some 54, op := Go.Op.load 44 (Go.Operand.tmp 53), type := 44, pos := "ref.go:39", after := #[{ on := 15, ground := Go.Ground.data }], guard := none }) (v := ?vz14_16) rfl (by kernel_rfl) (by kernel_rfl) (by kernel_rfl) (by kernel_rfl) (by kernel_rfl) (fun _ _ _ h => h) (Or.inl ⟨by rfl, ?yz14_16⟩) (by assumption) ?rz14_16
        case yz14_16 => (((intro w hSw; (try dsimp only at hSw); go_simp) <;> with_reducible rfl))
        try simp only [put_]
        refine wpAnyLast_take (i := 17) (oi := { dst := some 55, op := Go.Op.indexAddr 76 (Go.Operand.tmp 4) (Go.Operand.const (Go.Value.int Go.IntKind.i64 3)), type := 0, pos := "ref.go:39", after := #[], guard := none }) (v := ?vz15_17) rfl (by kernel_rfl) (by kernel_rfl) (by kernel_rfl) (by kernel_rfl) (by kernel_rfl) (fun _ _ _ h => h) (Or.inl ⟨by rfl, ?yz15_17⟩) (by assumption) ?rz15_17
        case yz15_17 => (((intro w hSw; (try dsimp only at hSw); go_simp) <;> with_reducible rfl))
        try simp only [put_]
        refine wpAnyLast_take (i := 18) (oi := { dst := some 56, op := Go.Op.load 4 (Go.Operand.tmp 55), type := 4, pos := "ref.go:39", after := #[{ on := 17, ground := Go.Ground.data }], guard := none }) (v := ?vz16_18) rfl (by kernel_rfl) (by kernel_rfl) (by kernel_rfl) (by kernel_rfl) (by kernel_rfl) (fun _ _ _ h => h) (Or.inl ⟨by rfl, ?yz16_18⟩) (by assumption) ?rz16_18
        case yz16_18 => (((intro w hSw; (try dsimp only at hSw); go_simp) <;> with_reducible rfl))
        try simp only [put_]
        refine wpAnyLast_take (i := 20) (oi := { dst := some 58, op := Go.Op.move (Go.Operand.tmp 6), type := 4, pos := "ref.go:39", after := #[], guard := none }) (v := ?vz17_20) rfl (by kernel_rfl) (by kernel_rfl) (by kernel_rfl) (by kernel_rfl) (by kernel_rfl) (fun _ _ _ h => h) (Or.inl ⟨by rfl, ?yz17_20⟩) (by assumption) ?rz17_20
        case yz17_20 => (((intro w hSw; (try dsimp only at hSw); go_simp) <;> with_reducible rfl))
        try simp only [put_]
        refine wpAnyLast_take (i := 21) (oi := { dst := some 59, op := Go.Op.move (Go.Operand.tmp 7), type := 4, pos := "ref.go:39", after := #[], guard := none }) (v := ?vz18_21) rfl (by kernel_rfl) (by kernel_rfl) (by kernel_rfl) (by kernel_rfl) (by kernel_rfl) (fun _ _ _ h => h) (Or.inl ⟨by rfl, ?yz18_21⟩) (by assumption) ?rz18_21
        case yz18_21 => (((intro w hSw; (try dsimp only at hSw); go_simp) <;> with_reducible rfl))
        try simp only [put_]
        refine wpAnyLast_take (i := 22) (oi := { dst := some 60, op := Go.Op.indexAddr 75 (Go.Operand.tmp 3) (Go.Operand.const (Go.Value.int Go.IntKind.i64 5)), type := 0, pos := "ref.go:39", after := #[], guard := none }) (v := ?vz19_22) rfl (by kernel_rfl) (by kernel_rfl) (by kernel_rfl) (by kernel_rfl) (by kernel_rfl) (fun _ _ _ h => h) (Or.inl ⟨by rfl, ?yz19_22⟩) (by assumption) ?rz19_22
        case yz19_22 => (((intro w hSw; (try dsimp only at hSw); go_simp) <;> with_reducible rfl))
        try simp only [put_]
        refine wpAnyLast_take (i := 23) (oi := { dst := some 61, op := Go.Op.load 44 (Go.Operand.tmp 60), type := 44, pos := "ref.go:39", after := #[{ on := 22, ground := Go.Ground.data }], guard := none }) (v := ?vz20_23) rfl (by kernel_rfl) (by kernel_rfl) (by kernel_rfl) (by kernel_rfl) (by kernel_rfl) (fun _ _ _ h => h) (Or.inl ⟨by rfl, ?yz20_23⟩) (by assumption) ?rz20_23
        case yz20_23 => (((intro w hSw; (try dsimp only at hSw); go_simp) <;> with_reducible rfl))
        try simp only [put_]
        refine wpAnyLast_take (i := 24) (oi := { dst := some 62, op := Go.Op.indexAddr 76 (Go.Operand.tmp 4) (Go.Operand.const (Go.Value.int Go.IntKind.i64 5)), type := 0, pos := "ref.go:39", after := #[], guard := none }) (v := ?vz21_24) rfl (by kernel_rfl) (by kernel_rfl) (by kernel_rfl) (by kernel_rfl) (by kernel_rfl) (fun _ _ _ h => h) (Or.inl ⟨by rfl, ?yz21_24⟩) (by assumption) ?rz21_24
        case yz21_24 => (((intro w hSw; (try dsimp only at hSw); go_simp) <;> with_reducible rfl))
        try simp only [put_]
        refine wpAnyLast_take (i := 25) (oi := { dst := some 63, op := Go.Op.load 4 (Go.Operand.tmp 62), type := 4, pos := "ref.go:39", after := #[{ on := 24, ground := Go.Ground.data }], guard := none }) (v := ?vz22_25) rfl (by kernel_rfl) (by kernel_rfl) (by kernel_rfl) (by kernel_rfl) (by kernel_rfl) (fun _ _ _ h => h) (Or.inl ⟨by rfl, ?yz22_25⟩) (by assumption) ?rz22_25
        case yz22_25 => (((intro w hSw; (try dsimp only at hSw); go_simp) <;> with_reducible rfl))
        try simp only [put_]
        refine wpAnyLast_take (i := 26) (oi := { dst := some 64, op := Go.Op.move (Go.Operand.tmp 0), type := 27, pos := "ref.go:39", after := #[], guard := none }) (v := ?vz23_26) rfl (by kernel_rfl) (by kernel_rfl) (by kernel_rfl) (by kernel_rfl) (by kernel_rfl) (fun _ _ _ h => h) (Or.inl ⟨by rfl, ?yz23_26⟩) (by assumption) ?rz23_26
        case yz23_26 => (((intro w hSw; (try dsimp only at hSw); go_simp) <;> with_reducible rfl))
        try simp only [put_]
        refine wpAnyLast_take (i := 27) (oi := { dst := some 65, op := Go.Op.nilCheck (Go.Operand.tmp 64), type := 0, pos := "ref.go:39", after := #[{ on := 26, ground := Go.Ground.data }], guard := none }) (v := ?vz24_27) rfl (by kernel_rfl) (by kernel_rfl) (by kernel_rfl) (by kernel_rfl) (by kernel_rfl) (fun _ _ _ h => h) (Or.inl ⟨by rfl, ?yz24_27⟩) (by assumption) ?rz24_27
        case yz24_27 => (((intro w hSw; (try dsimp only at hSw); go_simp) <;> with_reducible rfl))
        try simp only [put_]
        refine wpAnyLast_take (i := 28) (oi := { dst := some 66, op := Go.Op.fieldAddr 62 (Go.Operand.tmp 65) 1, type := 0, pos := "ref.go:39", after := #[{ on := 27, ground := Go.Ground.data }], guard := none }) (v := ?vz25_28) rfl (by kernel_rfl) (by kernel_rfl) (by kernel_rfl) (by kernel_rfl) (by kernel_rfl) (fun _ _ _ h => h) (Or.inl ⟨by rfl, ?yz25_28⟩) (by assumption) ?rz25_28
        case yz25_28 => (((intro w hSw; (try dsimp only at hSw); go_simp) <;> with_reducible rfl))
        try simp only [put_]
        refine wpAnyLast_take (i := 29) (oi := { dst := some 67, op := Go.Op.load 3 (Go.Operand.tmp 66), type := 3, pos := "ref.go:39", after := #[{ on := 28, ground := Go.Ground.data }], guard := none }) (v := ?vz26_29) rfl (by kernel_rfl) (by kernel_rfl) (by kernel_rfl) (by kernel_rfl) (by kernel_rfl) (fun _ _ _ h => h) (Or.inl ⟨by rfl, ?yz26_29⟩) (by assumption) ?rz26_29
        case yz26_29 => (((intro w hSw; (try dsimp only at hSw); go_simp) <;> with_reducible rfl))
        try simp only [put_]
        refine wpAnyLast_ready (rs := [4, 32]) (by kernel_rfl) (by simp) ?_
        refine AllReadyL.cons (o := { dst := some 42, op := Go.Op.call { callee := Go.Callee.value (Go.Operand.func 38), args := #[Go.Operand.tmp 39, Go.Operand.tmp 41], argTypes := #[44, 4] }, type := 33, pos := "ref.go:39", after := #[{ on := 1, ground := Go.Ground.data }, { on := 3, ground := Go.Ground.data }], guard := none }) rfl (by decide) (fun K hK => ?kz27_4) (AllReadyL.cons (o := { dst := some 8, op := Go.Op.alloc 36, type := 0, pos := "ref.go:39", after := #[], guard := none }) rfl (by decide) (fun K hK => ?kz27_32) AllReadyL.nil)
        case kz27_4 =>
          go_simp
          obtain ⟨-, hc1, hC1⟩ := Kd.R_reads' (Kd.R_below K0.out DD0.out)
          refine (crossbuckref13_Barrier.calls 0 (A 0) (c 0) (dataR F st 0) (isR F st 0) _ _ _ _ _ hC1 hc1 (rBar_eq _ (dataR_wf HBY.out 0))).mono ?_
          rintro e y1 ⟨rfl, hb1⟩
          have DD1 := Aside0.mk (below_thenB DD0.out hb1 DD0.out.size)
          clear hb1 hC1 hc1
          go_simp
          refine hK.out _ _ ?_ (fun hHeld => ?_)
          · exact HSK.out _ DD1.out
          clear hK K
          try simp only [put_]
          refine wpAnyLast_ready (rs := [9, 32]) (by kernel_rfl) (by simp) ?_
          refine AllReadyL.cons (o := { dst := some 47, op := Go.Op.call { callee := Go.Callee.value (Go.Operand.func 39), args := #[Go.Operand.tmp 44, Go.Operand.tmp 46], argTypes := #[44, 4] }, type := 4, pos := "ref.go:39", after := #[{ on := 6, ground := Go.Ground.data }, { on := 8, ground := Go.Ground.data }, { on := 4, ground := Go.Ground.chain }], guard := none }) rfl (by decide) (fun K hK => ?kz28_9) (AllReadyL.cons (o := { dst := some 8, op := Go.Op.alloc 36, type := 0, pos := "ref.go:39", after := #[], guard := none }) rfl (by decide) (fun K hK => ?kz28_32) AllReadyL.nil)
          case kz28_9 =>
            go_simp
            obtain ⟨-, hc2, hC2⟩ := Kd.R_reads' (Kd.R_below K1.out DD1.out)
            refine (crossbuckref13_Lamps.calls (A 1) (c 1) (dataR F st 1) (isR F st 1) _ _ hC2 hc2 (rLamps_eq _ (dataR_wf HBY.out 1))).mono ?_
            rintro e y2 ⟨rfl, hb2⟩
            replace hb2 := hb2.below
            have DD2 := Aside0.mk (below_thenB DD1.out hb2 DD1.out.size)
            clear hb2 hC2 hc2
            go_simp
            refine hK.out _ _ ?_ (fun hHeld => ?_)
            · exact HSK.out _ DD2.out
            clear hK K
            try simp only [put_]
            refine wpAnyLast_ready (rs := [14, 32]) (by kernel_rfl) (by simp) ?_
            refine AllReadyL.cons (o := { dst := some 52, op := Go.Op.call { callee := Go.Callee.value (Go.Operand.func 40), args := #[Go.Operand.tmp 49, Go.Operand.tmp 51], argTypes := #[44, 4] }, type := 4, pos := "ref.go:39", after := #[{ on := 11, ground := Go.Ground.data }, { on := 13, ground := Go.Ground.data }, { on := 9, ground := Go.Ground.chain }], guard := none }) rfl (by decide) (fun K hK => ?kz29_14) (AllReadyL.cons (o := { dst := some 8, op := Go.Op.alloc 36, type := 0, pos := "ref.go:39", after := #[], guard := none }) rfl (by decide) (fun K hK => ?kz29_32) AllReadyL.nil)
            case kz29_14 =>
              go_simp
              obtain ⟨-, hc3, hC3⟩ := Kd.R_reads' (Kd.R_below K2.out DD2.out)
              refine (crossbuckref13_Obstacle.calls (A 2) (c 2) (dataR F st 2) (isR F st 2) _ _ hC3 hc3 (rObst_eq _ (dataR_wf HBY.out 2))).mono ?_
              rintro e y3 ⟨rfl, hb3⟩
              replace hb3 := hb3.below
              have DD3 := Aside0.mk (below_thenB DD2.out hb3 DD2.out.size)
              clear hb3 hC3 hc3
              go_simp
              refine hK.out _ _ ?_ (fun hHeld => ?_)
              · exact HSK.out _ DD3.out
              clear hK K
              try simp only [put_]
              refine wpAnyLast_ready (rs := [19, 32]) (by kernel_rfl) (by simp) ?_
              refine AllReadyL.cons (o := { dst := some 57, op := Go.Op.call { callee := Go.Callee.value (Go.Operand.func 41), args := #[Go.Operand.tmp 54, Go.Operand.tmp 56], argTypes := #[44, 4] }, type := 3, pos := "ref.go:39", after := #[{ on := 16, ground := Go.Ground.data }, { on := 18, ground := Go.Ground.data }, { on := 14, ground := Go.Ground.chain }], guard := none }) rfl (by decide) (fun K hK => ?kz30_19) (AllReadyL.cons (o := { dst := some 8, op := Go.Op.alloc 36, type := 0, pos := "ref.go:39", after := #[], guard := none }) rfl (by decide) (fun K hK => ?kz30_32) AllReadyL.nil)
              case kz30_19 =>
                go_simp
                obtain ⟨-, hc4, hC4⟩ := Kd.R_reads' (Kd.R_below K3.out DD3.out)
                refine (crossbuckref13_Mode.calls (A 3) (c 3) (dataR F st 3) (isR F st 3) _ _ hC4 hc4 (rMode_eq _ (dataR_wf HBY.out 3))).mono ?_
                rintro e y4 ⟨rfl, hb4⟩
                replace hb4 := hb4.below
                have DD4 := Aside0.mk (below_thenB DD3.out hb4 DD3.out.size)
                clear hb4 hC4 hc4
                go_simp
                refine hK.out _ _ ?_ (fun hHeld => ?_)
                · exact HSK.out _ DD4.out
                clear hK K
                try simp only [put_]
                refine wpAnyLast_ready (rs := [30, 32]) (by kernel_rfl) (by simp) ?_
                refine AllReadyL.cons (o := { dst := some 68, op := Go.Op.call { callee := Go.Callee.value (Go.Operand.func 42), args := #[Go.Operand.tmp 61, Go.Operand.tmp 63, Go.Operand.tmp 67], argTypes := #[44, 4, 3] }, type := 3, pos := "ref.go:39", after := #[{ on := 23, ground := Go.Ground.data }, { on := 25, ground := Go.Ground.data }, { on := 29, ground := Go.Ground.data }, { on := 19, ground := Go.Ground.chain }], guard := none }) rfl (by decide) (fun K hK => ?kz31_30) (AllReadyL.cons (o := { dst := some 8, op := Go.Op.alloc 36, type := 0, pos := "ref.go:39", after := #[], guard := none }) rfl (by decide) (fun K hK => ?kz31_32) AllReadyL.nil)
                case kz31_30 =>
                  go_simp
                  obtain ⟨-, hc5, hC5⟩ := Kd.R_reads' (Kd.R_below K5.out DD4.out)
                  refine (crossbuckref13_Routes.calls 10 (A 5) (c 5) (dataR F st 5) (isR F st 5) (n : Int) _ _ hC5 hc5 (rRoutes_eq _ _ (dataR_wf HBY.out 5))).mono ?_
                  rintro e y5 ⟨rfl, hb5⟩
                  have DD5 := Aside0.mk (below_thenB DD4.out hb5 DD4.out.size)
                  clear hb5 hC5 hc5
                  go_simp
                  refine hK.out _ _ ?_ (fun hHeld => ?_)
                  · exact HSK.out _ DD5.out
                  clear hK K
                  try simp only [put_]
                  refine wpAnyLast_take (i := 31) (oi := { dst := some 69, op := Go.Op.build 36 #[(0, Go.Operand.tmp 42), (2, Go.Operand.tmp 47), (3, Go.Operand.tmp 52), (4, Go.Operand.tmp 57), (5, Go.Operand.tmp 58), (6, Go.Operand.tmp 59), (7, Go.Operand.tmp 68)], type := 36, pos := "ref.go:39", after := #[{ on := 4, ground := Go.Ground.data }, { on := 9, ground := Go.Ground.data }, { on := 14, ground := Go.Ground.data }, { on := 19, ground := Go.Ground.data }, { on := 20, ground := Go.Ground.data }, { on := 21, ground := Go.Ground.data }, { on := 30, ground := Go.Ground.data }], guard := none }) (v := ?vz32_31) rfl (by kernel_rfl) (by kernel_rfl) (by kernel_rfl) (by kernel_rfl) (by kernel_rfl) (fun _ _ _ h => h) (Or.inl ⟨by rfl, ?yz32_31⟩) (by assumption) ?rz32_31
                  case yz32_31 => (((intro w hSw; (try dsimp only at hSw); go_simp) <;> with_reducible rfl))
                  try simp only [put_]
                  refine wpAnyLast_ready (rs := [32]) (by kernel_rfl) (by simp) ?_
                  refine AllReadyL.cons (o := { dst := some 8, op := Go.Op.alloc 36, type := 0, pos := "ref.go:39", after := #[], guard := none }) rfl (by decide) (fun K hK => ?kz33_32) AllReadyL.nil
                  have DD6 := balloc DD5 (.cells #[.bool false, .bool false, .bool false, .bool false, .bool false, .bool false, .bool false, .int .i64 0, .bool false, .bool false, .int .i64 0, .slice none 0 0] 36)
                  have HJ6 := Aside0.mk (heap_new y5 (.cells #[.bool false, .bool false, .bool false, .bool false, .bool false, .bool false, .bool false, .int .i64 0, .bool false, .bool false, .int .i64 0, .slice none 0 0] 36))
                  go_simp
                  obtain ⟨y6, hy⟩ : ∃ y, y = (y5.alloc (.cells #[.bool false, .bool false, .bool false, .bool false, .bool false, .bool false, .bool false, .int .i64 0, .bool false, .bool false, .int .i64 0, .slice none 0 0] 36)) := ⟨_, rfl⟩
                  rw [← hy] at DD6 HJ6 ⊢
                  clear hy
                  refine hK.out _ _ ?_ (fun hHeld => ?_)
                  · exact HSK.out _ DD6.out
                  clear hK K
                  try simp only [put_]
                  refine wpAnyLast_ready (rs := [33]) (by kernel_rfl) (by simp) ?_
                  refine AllReadyL.cons_last (o := { dst := none, op := Go.Op.store 36 (Go.Operand.tmp 8) (Go.Operand.tmp 69), type := 0, pos := "ref.go:39", after := #[{ on := 32, ground := Go.Ground.data }, { on := 31, ground := Go.Ground.data }, { on := 30, ground := Go.Ground.chain }, { on := 0, ground := Go.Ground.phase }, { on := 1, ground := Go.Ground.phase }, { on := 2, ground := Go.Ground.phase }, { on := 3, ground := Go.Ground.phase }, { on := 4, ground := Go.Ground.phase }, { on := 5, ground := Go.Ground.phase }, { on := 6, ground := Go.Ground.phase }, { on := 7, ground := Go.Ground.phase }, { on := 8, ground := Go.Ground.phase }, { on := 9, ground := Go.Ground.phase }, { on := 10, ground := Go.Ground.phase }, { on := 11, ground := Go.Ground.phase }, { on := 12, ground := Go.Ground.phase }, { on := 13, ground := Go.Ground.phase }, { on := 14, ground := Go.Ground.phase }, { on := 15, ground := Go.Ground.phase }, { on := 16, ground := Go.Ground.phase }, { on := 17, ground := Go.Ground.phase }, { on := 18, ground := Go.Ground.phase }, { on := 19, ground := Go.Ground.phase }, { on := 20, ground := Go.Ground.phase }, { on := 21, ground := Go.Ground.phase }, { on := 22, ground := Go.Ground.phase }, { on := 23, ground := Go.Ground.phase }, { on := 24, ground := Go.Ground.phase }, { on := 25, ground := Go.Ground.phase }, { on := 26, ground := Go.Ground.phase }, { on := 27, ground := Go.Ground.phase }, { on := 28, ground := Go.Ground.phase }, { on := 29, ground := Go.Ground.phase }, { on := 30, ground := Go.Ground.phase }, { on := 31, ground := Go.Ground.phase }, { on := 32, ground := Go.Ground.phase }], guard := none }) rfl (by decide) (fun K hK => ?kz34_33) AllReadyL.nil
                  have p0 : World.cell? y6 ⟨y5.heap.size, 0, none⟩ = some (.bool false) := cell_of_heap HJ6.out 0
                  have g0 := frozen_of_heap HJ6.out 0
                  have p1 : World.cell? y6 ⟨y5.heap.size, 1, none⟩ = some (.bool false) := cell_of_heap HJ6.out 1
                  have g1 := frozen_of_heap HJ6.out 1
                  have p2 : World.cell? y6 ⟨y5.heap.size, 2, none⟩ = some (.bool false) := cell_of_heap HJ6.out 2
                  have g2 := frozen_of_heap HJ6.out 2
                  have p3 : World.cell? y6 ⟨y5.heap.size, 3, none⟩ = some (.bool false) := cell_of_heap HJ6.out 3
                  have g3 := frozen_of_heap HJ6.out 3
                  have p4 : World.cell? y6 ⟨y5.heap.size, 4, none⟩ = some (.bool false) := cell_of_heap HJ6.out 4
                  have g4 := frozen_of_heap HJ6.out 4
                  have p5 : World.cell? y6 ⟨y5.heap.size, 5, none⟩ = some (.bool false) := cell_of_heap HJ6.out 5
                  have g5 := frozen_of_heap HJ6.out 5
                  have p6 : World.cell? y6 ⟨y5.heap.size, 6, none⟩ = some (.bool false) := cell_of_heap HJ6.out 6
                  have g6 := frozen_of_heap HJ6.out 6
                  have p7 : World.cell? y6 ⟨y5.heap.size, 7, none⟩ = some (.int .i64 0) := cell_of_heap HJ6.out 7
                  have g7 := frozen_of_heap HJ6.out 7
                  have p8 : World.cell? y6 ⟨y5.heap.size, 8, none⟩ = some (.bool false) := cell_of_heap HJ6.out 8
                  have g8 := frozen_of_heap HJ6.out 8
                  have p9 : World.cell? y6 ⟨y5.heap.size, 9, none⟩ = some (.bool false) := cell_of_heap HJ6.out 9
                  have g9 := frozen_of_heap HJ6.out 9
                  have p10 : World.cell? y6 ⟨y5.heap.size, 10, none⟩ = some (.int .i64 0) := cell_of_heap HJ6.out 10
                  have g10 := frozen_of_heap HJ6.out 10
                  have p11 : World.cell? y6 ⟨y5.heap.size, 11, none⟩ = some (.slice none 0 0) := cell_of_heap HJ6.out 11
                  have g11 := frozen_of_heap HJ6.out 11
                  go_simp
                  refine hK.out _ _ ?_
                  clear hK K
                  try simp only [put_]
                  refine wpAnyLast_done (by kernel_rfl) ?_ _
                  go_wp2_with fail
                  go_meet
                  case rel =>
                    have hJ0 : wa.heap.size ≤ y5.heap.size := DD5.out.size
                    exact ⟨_, rfl, ⟨hJ0⟩, bonly DD6 ((((((((((((set_only _ _ _ _).trans (set_only _ _ _ _)).trans (set_only _ _ _ _)).trans (set_only _ _ _ _)).trans (set_only _ _ _ _)).trans (set_only _ _ _ _)).trans (set_only _ _ _ _)).trans (set_only _ _ _ _)).trans (set_only _ _ _ _)).trans (set_only _ _ _ _)).trans (set_only _ _ _ _)).trans (set_only _ _ _ _)) hJ0, ⟨by simpa using blk_set (blk_set (blk_set (blk_set (blk_set (blk_set (blk_set (blk_set (blk_set (blk_set (blk_set (blk_set (HJ6.out) 0 (.bool (sBar (dataR F st 0) (isR F st 0)).1)) 1 (.bool (sBar (dataR F st 0) (isR F st 0)).2.1)) 2 (.bool (sBar (dataR F st 0) (isR F st 0)).2.2.1)) 3 (.bool (sBar (dataR F st 0) (isR F st 0)).2.2.2)) 4 (.bool false)) 5 (.bool (sLamps (dataR F st 1) (isR F st 1)))) 6 (.bool (sObst (dataR F st 2) (isR F st 2)))) 7 (.int .i64 (sMode (dataR F st 3) (isR F st 3)))) 8 (.bool (sPower (dataR F st 4) (isR F st 4)).1)) 9 (.bool (sPower (dataR F st 4) (isR F st 4)).2)) 10 (.int .i64 (sRoutes (dataR F st 5) (isR F st 5) n))) 11 (.slice none 0 0)⟩⟩
                case kz31_32 =>
                  have DD5 := balloc DD4 (.cells #[.bool false, .bool false, .bool false, .bool false, .bool false, .bool false, .bool false, .int .i64 0, .bool false, .bool false, .int .i64 0, .slice none 0 0] 36)
                  have HJ5 := Aside0.mk (heap_new y4 (.cells #[.bool false, .bool false, .bool false, .bool false, .bool false, .bool false, .bool false, .int .i64 0, .bool false, .bool false, .int .i64 0, .slice none 0 0] 36))
                  go_simp
                  obtain ⟨y5, hy⟩ : ∃ y, y = (y4.alloc (.cells #[.bool false, .bool false, .bool false, .bool false, .bool false, .bool false, .bool false, .int .i64 0, .bool false, .bool false, .int .i64 0, .slice none 0 0] 36)) := ⟨_, rfl⟩
                  rw [← hy] at DD5 HJ5 ⊢
                  clear hy
                  refine hK.out _ _ ?_ (fun hHeld => ?_)
                  · exact HSK.out _ DD5.out
                  clear hK K
                  try simp only [put_]
                  refine wpAnyLast_ready (rs := [30]) (by kernel_rfl) (by simp) ?_
                  refine AllReadyL.cons (o := { dst := some 68, op := Go.Op.call { callee := Go.Callee.value (Go.Operand.func 42), args := #[Go.Operand.tmp 61, Go.Operand.tmp 63, Go.Operand.tmp 67], argTypes := #[44, 4, 3] }, type := 3, pos := "ref.go:39", after := #[{ on := 23, ground := Go.Ground.data }, { on := 25, ground := Go.Ground.data }, { on := 29, ground := Go.Ground.data }, { on := 19, ground := Go.Ground.chain }], guard := none }) rfl (by decide) (fun K hK => ?kz35_30) AllReadyL.nil
                  go_simp
                  obtain ⟨-, hc6, hC6⟩ := Kd.R_reads' (Kd.R_below K5.out DD5.out)
                  refine (crossbuckref13_Routes.calls 10 (A 5) (c 5) (dataR F st 5) (isR F st 5) (n : Int) _ _ hC6 hc6 (rRoutes_eq _ _ (dataR_wf HBY.out 5))).mono ?_
                  rintro e y6 ⟨rfl, hb6⟩
                  have DD6 := Aside0.mk (below_thenB DD5.out hb6 DD5.out.size)
                  have HJ6 := Aside0.mk (heap_below ⟨hb6⟩ HJ5.out)
                  clear hb6 hC6 hc6
                  go_simp
                  refine hK.out _ _ ?_ (fun hHeld => ?_)
                  · exact HSK.out _ DD6.out
                  clear hK K
                  try simp only [put_]
                  refine wpAnyLast_take (i := 31) (oi := { dst := some 69, op := Go.Op.build 36 #[(0, Go.Operand.tmp 42), (2, Go.Operand.tmp 47), (3, Go.Operand.tmp 52), (4, Go.Operand.tmp 57), (5, Go.Operand.tmp 58), (6, Go.Operand.tmp 59), (7, Go.Operand.tmp 68)], type := 36, pos := "ref.go:39", after := #[{ on := 4, ground := Go.Ground.data }, { on := 9, ground := Go.Ground.data }, { on := 14, ground := Go.Ground.data }, { on := 19, ground := Go.Ground.data }, { on := 20, ground := Go.Ground.data }, { on := 21, ground := Go.Ground.data }, { on := 30, ground := Go.Ground.data }], guard := none }) (v := ?vz36_31) rfl (by kernel_rfl) (by kernel_rfl) (by kernel_rfl) (by kernel_rfl) (by kernel_rfl) (fun _ _ _ h => h) (Or.inl ⟨by rfl, ?yz36_31⟩) (by assumption) ?rz36_31
                  case yz36_31 => (((intro w hSw; (try dsimp only at hSw); go_simp) <;> with_reducible rfl))
                  try simp only [put_]
                  refine wpAnyLast_ready (rs := [33]) (by kernel_rfl) (by simp) ?_
                  refine AllReadyL.cons_last (o := { dst := none, op := Go.Op.store 36 (Go.Operand.tmp 8) (Go.Operand.tmp 69), type := 0, pos := "ref.go:39", after := #[{ on := 32, ground := Go.Ground.data }, { on := 31, ground := Go.Ground.data }, { on := 30, ground := Go.Ground.chain }, { on := 0, ground := Go.Ground.phase }, { on := 1, ground := Go.Ground.phase }, { on := 2, ground := Go.Ground.phase }, { on := 3, ground := Go.Ground.phase }, { on := 4, ground := Go.Ground.phase }, { on := 5, ground := Go.Ground.phase }, { on := 6, ground := Go.Ground.phase }, { on := 7, ground := Go.Ground.phase }, { on := 8, ground := Go.Ground.phase }, { on := 9, ground := Go.Ground.phase }, { on := 10, ground := Go.Ground.phase }, { on := 11, ground := Go.Ground.phase }, { on := 12, ground := Go.Ground.phase }, { on := 13, ground := Go.Ground.phase }, { on := 14, ground := Go.Ground.phase }, { on := 15, ground := Go.Ground.phase }, { on := 16, ground := Go.Ground.phase }, { on := 17, ground := Go.Ground.phase }, { on := 18, ground := Go.Ground.phase }, { on := 19, ground := Go.Ground.phase }, { on := 20, ground := Go.Ground.phase }, { on := 21, ground := Go.Ground.phase }, { on := 22, ground := Go.Ground.phase }, { on := 23, ground := Go.Ground.phase }, { on := 24, ground := Go.Ground.phase }, { on := 25, ground := Go.Ground.phase }, { on := 26, ground := Go.Ground.phase }, { on := 27, ground := Go.Ground.phase }, { on := 28, ground := Go.Ground.phase }, { on := 29, ground := Go.Ground.phase }, { on := 30, ground := Go.Ground.phase }, { on := 31, ground := Go.Ground.phase }, { on := 32, ground := Go.Ground.phase }], guard := none }) rfl (by decide) (fun K hK => ?kz37_33) AllReadyL.nil
                  have p0 : World.cell? y6 ⟨y4.heap.size, 0, none⟩ = some (.bool false) := cell_of_heap HJ6.out 0
                  have g0 := frozen_of_heap HJ6.out 0
                  have p1 : World.cell? y6 ⟨y4.heap.size, 1, none⟩ = some (.bool false) := cell_of_heap HJ6.out 1
                  have g1 := frozen_of_heap HJ6.out 1
                  have p2 : World.cell? y6 ⟨y4.heap.size, 2, none⟩ = some (.bool false) := cell_of_heap HJ6.out 2
                  have g2 := frozen_of_heap HJ6.out 2
                  have p3 : World.cell? y6 ⟨y4.heap.size, 3, none⟩ = some (.bool false) := cell_of_heap HJ6.out 3
                  have g3 := frozen_of_heap HJ6.out 3
                  have p4 : World.cell? y6 ⟨y4.heap.size, 4, none⟩ = some (.bool false) := cell_of_heap HJ6.out 4
                  have g4 := frozen_of_heap HJ6.out 4
                  have p5 : World.cell? y6 ⟨y4.heap.size, 5, none⟩ = some (.bool false) := cell_of_heap HJ6.out 5
                  have g5 := frozen_of_heap HJ6.out 5
                  have p6 : World.cell? y6 ⟨y4.heap.size, 6, none⟩ = some (.bool false) := cell_of_heap HJ6.out 6
                  have g6 := frozen_of_heap HJ6.out 6
                  have p7 : World.cell? y6 ⟨y4.heap.size, 7, none⟩ = some (.int .i64 0) := cell_of_heap HJ6.out 7
                  have g7 := frozen_of_heap HJ6.out 7
                  have p8 : World.cell? y6 ⟨y4.heap.size, 8, none⟩ = some (.bool false) := cell_of_heap HJ6.out 8
                  have g8 := frozen_of_heap HJ6.out 8
                  have p9 : World.cell? y6 ⟨y4.heap.size, 9, none⟩ = some (.bool false) := cell_of_heap HJ6.out 9
                  have g9 := frozen_of_heap HJ6.out 9
                  have p10 : World.cell? y6 ⟨y4.heap.size, 10, none⟩ = some (.int .i64 0) := cell_of_heap HJ6.out 10
                  have g10 := frozen_of_heap HJ6.out 10
                  have p11 : World.cell? y6 ⟨y4.heap.size, 11, none⟩ = some (.slice none 0 0) := cell_of_heap HJ6.out 11
                  have g11 := frozen_of_heap HJ6.out 11
                  go_simp
                  refine hK.out _ _ ?_
                  clear hK K
                  try simp only [put_]
                  refine wpAnyLast_done (by kernel_rfl) ?_ _
                  go_wp2_with fail
                  go_meet
                  case rel =>
                    have hJ0 : wa.heap.size ≤ y4.heap.size := DD4.out.size
                    exact ⟨_, rfl, ⟨hJ0⟩, bonly DD6 ((((((((((((set_only _ _ _ _).trans (set_only _ _ _ _)).trans (set_only _ _ _ _)).trans (set_only _ _ _ _)).trans (set_only _ _ _ _)).trans (set_only _ _ _ _)).trans (set_only _ _ _ _)).trans (set_only _ _ _ _)).trans (set_only _ _ _ _)).trans (set_only _ _ _ _)).trans (set_only _ _ _ _)).trans (set_only _ _ _ _)) hJ0, ⟨by simpa using blk_set (blk_set (blk_set (blk_set (blk_set (blk_set (blk_set (blk_set (blk_set (blk_set (blk_set (blk_set (HJ6.out) 0 (.bool (sBar (dataR F st 0) (isR F st 0)).1)) 1 (.bool (sBar (dataR F st 0) (isR F st 0)).2.1)) 2 (.bool (sBar (dataR F st 0) (isR F st 0)).2.2.1)) 3 (.bool (sBar (dataR F st 0) (isR F st 0)).2.2.2)) 4 (.bool false)) 5 (.bool (sLamps (dataR F st 1) (isR F st 1)))) 6 (.bool (sObst (dataR F st 2) (isR F st 2)))) 7 (.int .i64 (sMode (dataR F st 3) (isR F st 3)))) 8 (.bool (sPower (dataR F st 4) (isR F st 4)).1)) 9 (.bool (sPower (dataR F st 4) (isR F st 4)).2)) 10 (.int .i64 (sRoutes (dataR F st 5) (isR F st 5) n))) 11 (.slice none 0 0)⟩⟩
              case kz30_32 =>
                have DD4 := balloc DD3 (.cells #[.bool false, .bool false, .bool false, .bool false, .bool false, .bool false, .bool false, .int .i64 0, .bool false, .bool false, .int .i64 0, .slice none 0 0] 36)
                have HJ4 := Aside0.mk (heap_new y3 (.cells #[.bool false, .bool false, .bool false, .bool false, .bool false, .bool false, .bool false, .int .i64 0, .bool false, .bool false, .int .i64 0, .slice none 0 0] 36))
                go_simp
                obtain ⟨y4, hy⟩ : ∃ y, y = (y3.alloc (.cells #[.bool false, .bool false, .bool false, .bool false, .bool false, .bool false, .bool false, .int .i64 0, .bool false, .bool false, .int .i64 0, .slice none 0 0] 36)) := ⟨_, rfl⟩
                rw [← hy] at DD4 HJ4 ⊢
                clear hy
                refine hK.out _ _ ?_ (fun hHeld => ?_)
                · exact HSK.out _ DD4.out
                clear hK K
                try simp only [put_]
                refine wpAnyLast_ready (rs := [19]) (by kernel_rfl) (by simp) ?_
                refine AllReadyL.cons (o := { dst := some 57, op := Go.Op.call { callee := Go.Callee.value (Go.Operand.func 41), args := #[Go.Operand.tmp 54, Go.Operand.tmp 56], argTypes := #[44, 4] }, type := 3, pos := "ref.go:39", after := #[{ on := 16, ground := Go.Ground.data }, { on := 18, ground := Go.Ground.data }, { on := 14, ground := Go.Ground.chain }], guard := none }) rfl (by decide) (fun K hK => ?kz38_19) AllReadyL.nil
                go_simp
                obtain ⟨-, hc5, hC5⟩ := Kd.R_reads' (Kd.R_below K3.out DD4.out)
                refine (crossbuckref13_Mode.calls (A 3) (c 3) (dataR F st 3) (isR F st 3) _ _ hC5 hc5 (rMode_eq _ (dataR_wf HBY.out 3))).mono ?_
                rintro e y5 ⟨rfl, hb5⟩
                replace hb5 := hb5.below
                have DD5 := Aside0.mk (below_thenB DD4.out hb5 DD4.out.size)
                have HJ5 := Aside0.mk (heap_below ⟨hb5⟩ HJ4.out)
                clear hb5 hC5 hc5
                go_simp
                refine hK.out _ _ ?_ (fun hHeld => ?_)
                · exact HSK.out _ DD5.out
                clear hK K
                try simp only [put_]
                refine wpAnyLast_ready (rs := [30]) (by kernel_rfl) (by simp) ?_
                refine AllReadyL.cons (o := { dst := some 68, op := Go.Op.call { callee := Go.Callee.value (Go.Operand.func 42), args := #[Go.Operand.tmp 61, Go.Operand.tmp 63, Go.Operand.tmp 67], argTypes := #[44, 4, 3] }, type := 3, pos := "ref.go:39", after := #[{ on := 23, ground := Go.Ground.data }, { on := 25, ground := Go.Ground.data }, { on := 29, ground := Go.Ground.data }, { on := 19, ground := Go.Ground.chain }], guard := none }) rfl (by decide) (fun K hK => ?kz39_30) AllReadyL.nil
                go_simp
                obtain ⟨-, hc6, hC6⟩ := Kd.R_reads' (Kd.R_below K5.out DD5.out)
                refine (crossbuckref13_Routes.calls 10 (A 5) (c 5) (dataR F st 5) (isR F st 5) (n : Int) _ _ hC6 hc6 (rRoutes_eq _ _ (dataR_wf HBY.out 5))).mono ?_
                rintro e y6 ⟨rfl, hb6⟩
                have DD6 := Aside0.mk (below_thenB DD5.out hb6 DD5.out.size)
                have HJ6 := Aside0.mk (heap_below ⟨hb6⟩ HJ5.out)
                clear hb6 hC6 hc6
                go_simp
                refine hK.out _ _ ?_ (fun hHeld => ?_)
                · exact HSK.out _ DD6.out
                clear hK K
                try simp only [put_]
                refine wpAnyLast_take (i := 31) (oi := { dst := some 69, op := Go.Op.build 36 #[(0, Go.Operand.tmp 42), (2, Go.Operand.tmp 47), (3, Go.Operand.tmp 52), (4, Go.Operand.tmp 57), (5, Go.Operand.tmp 58), (6, Go.Operand.tmp 59), (7, Go.Operand.tmp 68)], type := 36, pos := "ref.go:39", after := #[{ on := 4, ground := Go.Ground.data }, { on := 9, ground := Go.Ground.data }, { on := 14, ground := Go.Ground.data }, { on := 19, ground := Go.Ground.data }, { on := 20, ground := Go.Ground.data }, { on := 21, ground := Go.Ground.data }, { on := 30, ground := Go.Ground.data }], guard := none }) (v := ?vz40_31) rfl (by kernel_rfl) (by kernel_rfl) (by kernel_rfl) (by kernel_rfl) (by kernel_rfl) (fun _ _ _ h => h) (Or.inl ⟨by rfl, ?yz40_31⟩) (by assumption) ?rz40_31
                case yz40_31 => (((intro w hSw; (try dsimp only at hSw); go_simp) <;> with_reducible rfl))
                try simp only [put_]
                refine wpAnyLast_ready (rs := [33]) (by kernel_rfl) (by simp) ?_
                refine AllReadyL.cons_last (o := { dst := none, op := Go.Op.store 36 (Go.Operand.tmp 8) (Go.Operand.tmp 69), type := 0, pos := "ref.go:39", after := #[{ on := 32, ground := Go.Ground.data }, { on := 31, ground := Go.Ground.data }, { on := 30, ground := Go.Ground.chain }, { on := 0, ground := Go.Ground.phase }, { on := 1, ground := Go.Ground.phase }, { on := 2, ground := Go.Ground.phase }, { on := 3, ground := Go.Ground.phase }, { on := 4, ground := Go.Ground.phase }, { on := 5, ground := Go.Ground.phase }, { on := 6, ground := Go.Ground.phase }, { on := 7, ground := Go.Ground.phase }, { on := 8, ground := Go.Ground.phase }, { on := 9, ground := Go.Ground.phase }, { on := 10, ground := Go.Ground.phase }, { on := 11, ground := Go.Ground.phase }, { on := 12, ground := Go.Ground.phase }, { on := 13, ground := Go.Ground.phase }, { on := 14, ground := Go.Ground.phase }, { on := 15, ground := Go.Ground.phase }, { on := 16, ground := Go.Ground.phase }, { on := 17, ground := Go.Ground.phase }, { on := 18, ground := Go.Ground.phase }, { on := 19, ground := Go.Ground.phase }, { on := 20, ground := Go.Ground.phase }, { on := 21, ground := Go.Ground.phase }, { on := 22, ground := Go.Ground.phase }, { on := 23, ground := Go.Ground.phase }, { on := 24, ground := Go.Ground.phase }, { on := 25, ground := Go.Ground.phase }, { on := 26, ground := Go.Ground.phase }, { on := 27, ground := Go.Ground.phase }, { on := 28, ground := Go.Ground.phase }, { on := 29, ground := Go.Ground.phase }, { on := 30, ground := Go.Ground.phase }, { on := 31, ground := Go.Ground.phase }, { on := 32, ground := Go.Ground.phase }], guard := none }) rfl (by decide) (fun K hK => ?kz41_33) AllReadyL.nil
                have p0 : World.cell? y6 ⟨y3.heap.size, 0, none⟩ = some (.bool false) := cell_of_heap HJ6.out 0
                have g0 := frozen_of_heap HJ6.out 0
                have p1 : World.cell? y6 ⟨y3.heap.size, 1, none⟩ = some (.bool false) := cell_of_heap HJ6.out 1
                have g1 := frozen_of_heap HJ6.out 1
                have p2 : World.cell? y6 ⟨y3.heap.size, 2, none⟩ = some (.bool false) := cell_of_heap HJ6.out 2
                have g2 := frozen_of_heap HJ6.out 2
                have p3 : World.cell? y6 ⟨y3.heap.size, 3, none⟩ = some (.bool false) := cell_of_heap HJ6.out 3
                have g3 := frozen_of_heap HJ6.out 3
                have p4 : World.cell? y6 ⟨y3.heap.size, 4, none⟩ = some (.bool false) := cell_of_heap HJ6.out 4
                have g4 := frozen_of_heap HJ6.out 4
                have p5 : World.cell? y6 ⟨y3.heap.size, 5, none⟩ = some (.bool false) := cell_of_heap HJ6.out 5
                have g5 := frozen_of_heap HJ6.out 5
                have p6 : World.cell? y6 ⟨y3.heap.size, 6, none⟩ = some (.bool false) := cell_of_heap HJ6.out 6
                have g6 := frozen_of_heap HJ6.out 6
                have p7 : World.cell? y6 ⟨y3.heap.size, 7, none⟩ = some (.int .i64 0) := cell_of_heap HJ6.out 7
                have g7 := frozen_of_heap HJ6.out 7
                have p8 : World.cell? y6 ⟨y3.heap.size, 8, none⟩ = some (.bool false) := cell_of_heap HJ6.out 8
                have g8 := frozen_of_heap HJ6.out 8
                have p9 : World.cell? y6 ⟨y3.heap.size, 9, none⟩ = some (.bool false) := cell_of_heap HJ6.out 9
                have g9 := frozen_of_heap HJ6.out 9
                have p10 : World.cell? y6 ⟨y3.heap.size, 10, none⟩ = some (.int .i64 0) := cell_of_heap HJ6.out 10
                have g10 := frozen_of_heap HJ6.out 10
                have p11 : World.cell? y6 ⟨y3.heap.size, 11, none⟩ = some (.slice none 0 0) := cell_of_heap HJ6.out 11
                have g11 := frozen_of_heap HJ6.out 11
                go_simp
                refine hK.out _ _ ?_
                clear hK K
                try simp only [put_]
                refine wpAnyLast_done (by kernel_rfl) ?_ _
                go_wp2_with fail
                go_meet
                case rel =>
                  have hJ0 : wa.heap.size ≤ y3.heap.size := DD3.out.size
                  exact ⟨_, rfl, ⟨hJ0⟩, bonly DD6 ((((((((((((set_only _ _ _ _).trans (set_only _ _ _ _)).trans (set_only _ _ _ _)).trans (set_only _ _ _ _)).trans (set_only _ _ _ _)).trans (set_only _ _ _ _)).trans (set_only _ _ _ _)).trans (set_only _ _ _ _)).trans (set_only _ _ _ _)).trans (set_only _ _ _ _)).trans (set_only _ _ _ _)).trans (set_only _ _ _ _)) hJ0, ⟨by simpa using blk_set (blk_set (blk_set (blk_set (blk_set (blk_set (blk_set (blk_set (blk_set (blk_set (blk_set (blk_set (HJ6.out) 0 (.bool (sBar (dataR F st 0) (isR F st 0)).1)) 1 (.bool (sBar (dataR F st 0) (isR F st 0)).2.1)) 2 (.bool (sBar (dataR F st 0) (isR F st 0)).2.2.1)) 3 (.bool (sBar (dataR F st 0) (isR F st 0)).2.2.2)) 4 (.bool false)) 5 (.bool (sLamps (dataR F st 1) (isR F st 1)))) 6 (.bool (sObst (dataR F st 2) (isR F st 2)))) 7 (.int .i64 (sMode (dataR F st 3) (isR F st 3)))) 8 (.bool (sPower (dataR F st 4) (isR F st 4)).1)) 9 (.bool (sPower (dataR F st 4) (isR F st 4)).2)) 10 (.int .i64 (sRoutes (dataR F st 5) (isR F st 5) n))) 11 (.slice none 0 0)⟩⟩
            case kz29_32 =>
              have DD3 := balloc DD2 (.cells #[.bool false, .bool false, .bool false, .bool false, .bool false, .bool false, .bool false, .int .i64 0, .bool false, .bool false, .int .i64 0, .slice none 0 0] 36)
              have HJ3 := Aside0.mk (heap_new y2 (.cells #[.bool false, .bool false, .bool false, .bool false, .bool false, .bool false, .bool false, .int .i64 0, .bool false, .bool false, .int .i64 0, .slice none 0 0] 36))
              go_simp
              obtain ⟨y3, hy⟩ : ∃ y, y = (y2.alloc (.cells #[.bool false, .bool false, .bool false, .bool false, .bool false, .bool false, .bool false, .int .i64 0, .bool false, .bool false, .int .i64 0, .slice none 0 0] 36)) := ⟨_, rfl⟩
              rw [← hy] at DD3 HJ3 ⊢
              clear hy
              refine hK.out _ _ ?_ (fun hHeld => ?_)
              · exact HSK.out _ DD3.out
              clear hK K
              try simp only [put_]
              refine wpAnyLast_ready (rs := [14]) (by kernel_rfl) (by simp) ?_
              refine AllReadyL.cons (o := { dst := some 52, op := Go.Op.call { callee := Go.Callee.value (Go.Operand.func 40), args := #[Go.Operand.tmp 49, Go.Operand.tmp 51], argTypes := #[44, 4] }, type := 4, pos := "ref.go:39", after := #[{ on := 11, ground := Go.Ground.data }, { on := 13, ground := Go.Ground.data }, { on := 9, ground := Go.Ground.chain }], guard := none }) rfl (by decide) (fun K hK => ?kz42_14) AllReadyL.nil
              go_simp
              obtain ⟨-, hc4, hC4⟩ := Kd.R_reads' (Kd.R_below K2.out DD3.out)
              refine (crossbuckref13_Obstacle.calls (A 2) (c 2) (dataR F st 2) (isR F st 2) _ _ hC4 hc4 (rObst_eq _ (dataR_wf HBY.out 2))).mono ?_
              rintro e y4 ⟨rfl, hb4⟩
              replace hb4 := hb4.below
              have DD4 := Aside0.mk (below_thenB DD3.out hb4 DD3.out.size)
              have HJ4 := Aside0.mk (heap_below ⟨hb4⟩ HJ3.out)
              clear hb4 hC4 hc4
              go_simp
              refine hK.out _ _ ?_ (fun hHeld => ?_)
              · exact HSK.out _ DD4.out
              clear hK K
              try simp only [put_]
              refine wpAnyLast_ready (rs := [19]) (by kernel_rfl) (by simp) ?_
              refine AllReadyL.cons (o := { dst := some 57, op := Go.Op.call { callee := Go.Callee.value (Go.Operand.func 41), args := #[Go.Operand.tmp 54, Go.Operand.tmp 56], argTypes := #[44, 4] }, type := 3, pos := "ref.go:39", after := #[{ on := 16, ground := Go.Ground.data }, { on := 18, ground := Go.Ground.data }, { on := 14, ground := Go.Ground.chain }], guard := none }) rfl (by decide) (fun K hK => ?kz43_19) AllReadyL.nil
              go_simp
              obtain ⟨-, hc5, hC5⟩ := Kd.R_reads' (Kd.R_below K3.out DD4.out)
              refine (crossbuckref13_Mode.calls (A 3) (c 3) (dataR F st 3) (isR F st 3) _ _ hC5 hc5 (rMode_eq _ (dataR_wf HBY.out 3))).mono ?_
              rintro e y5 ⟨rfl, hb5⟩
              replace hb5 := hb5.below
              have DD5 := Aside0.mk (below_thenB DD4.out hb5 DD4.out.size)
              have HJ5 := Aside0.mk (heap_below ⟨hb5⟩ HJ4.out)
              clear hb5 hC5 hc5
              go_simp
              refine hK.out _ _ ?_ (fun hHeld => ?_)
              · exact HSK.out _ DD5.out
              clear hK K
              try simp only [put_]
              refine wpAnyLast_ready (rs := [30]) (by kernel_rfl) (by simp) ?_
              refine AllReadyL.cons (o := { dst := some 68, op := Go.Op.call { callee := Go.Callee.value (Go.Operand.func 42), args := #[Go.Operand.tmp 61, Go.Operand.tmp 63, Go.Operand.tmp 67], argTypes := #[44, 4, 3] }, type := 3, pos := "ref.go:39", after := #[{ on := 23, ground := Go.Ground.data }, { on := 25, ground := Go.Ground.data }, { on := 29, ground := Go.Ground.data }, { on := 19, ground := Go.Ground.chain }], guard := none }) rfl (by decide) (fun K hK => ?kz44_30) AllReadyL.nil
              go_simp
              obtain ⟨-, hc6, hC6⟩ := Kd.R_reads' (Kd.R_below K5.out DD5.out)
              refine (crossbuckref13_Routes.calls 10 (A 5) (c 5) (dataR F st 5) (isR F st 5) (n : Int) _ _ hC6 hc6 (rRoutes_eq _ _ (dataR_wf HBY.out 5))).mono ?_
              rintro e y6 ⟨rfl, hb6⟩
              have DD6 := Aside0.mk (below_thenB DD5.out hb6 DD5.out.size)
              have HJ6 := Aside0.mk (heap_below ⟨hb6⟩ HJ5.out)
              clear hb6 hC6 hc6
              go_simp
              refine hK.out _ _ ?_ (fun hHeld => ?_)
              · exact HSK.out _ DD6.out
              clear hK K
              try simp only [put_]
              refine wpAnyLast_take (i := 31) (oi := { dst := some 69, op := Go.Op.build 36 #[(0, Go.Operand.tmp 42), (2, Go.Operand.tmp 47), (3, Go.Operand.tmp 52), (4, Go.Operand.tmp 57), (5, Go.Operand.tmp 58), (6, Go.Operand.tmp 59), (7, Go.Operand.tmp 68)], type := 36, pos := "ref.go:39", after := #[{ on := 4, ground := Go.Ground.data }, { on := 9, ground := Go.Ground.data }, { on := 14, ground := Go.Ground.data }, { on := 19, ground := Go.Ground.data }, { on := 20, ground := Go.Ground.data }, { on := 21, ground := Go.Ground.data }, { on := 30, ground := Go.Ground.data }], guard := none }) (v := ?vz45_31) rfl (by kernel_rfl) (by kernel_rfl) (by kernel_rfl) (by kernel_rfl) (by kernel_rfl) (fun _ _ _ h => h) (Or.inl ⟨by rfl, ?yz45_31⟩) (by assumption) ?rz45_31
              case yz45_31 => (((intro w hSw; (try dsimp only at hSw); go_simp) <;> with_reducible rfl))
              try simp only [put_]
              refine wpAnyLast_ready (rs := [33]) (by kernel_rfl) (by simp) ?_
              refine AllReadyL.cons_last (o := { dst := none, op := Go.Op.store 36 (Go.Operand.tmp 8) (Go.Operand.tmp 69), type := 0, pos := "ref.go:39", after := #[{ on := 32, ground := Go.Ground.data }, { on := 31, ground := Go.Ground.data }, { on := 30, ground := Go.Ground.chain }, { on := 0, ground := Go.Ground.phase }, { on := 1, ground := Go.Ground.phase }, { on := 2, ground := Go.Ground.phase }, { on := 3, ground := Go.Ground.phase }, { on := 4, ground := Go.Ground.phase }, { on := 5, ground := Go.Ground.phase }, { on := 6, ground := Go.Ground.phase }, { on := 7, ground := Go.Ground.phase }, { on := 8, ground := Go.Ground.phase }, { on := 9, ground := Go.Ground.phase }, { on := 10, ground := Go.Ground.phase }, { on := 11, ground := Go.Ground.phase }, { on := 12, ground := Go.Ground.phase }, { on := 13, ground := Go.Ground.phase }, { on := 14, ground := Go.Ground.phase }, { on := 15, ground := Go.Ground.phase }, { on := 16, ground := Go.Ground.phase }, { on := 17, ground := Go.Ground.phase }, { on := 18, ground := Go.Ground.phase }, { on := 19, ground := Go.Ground.phase }, { on := 20, ground := Go.Ground.phase }, { on := 21, ground := Go.Ground.phase }, { on := 22, ground := Go.Ground.phase }, { on := 23, ground := Go.Ground.phase }, { on := 24, ground := Go.Ground.phase }, { on := 25, ground := Go.Ground.phase }, { on := 26, ground := Go.Ground.phase }, { on := 27, ground := Go.Ground.phase }, { on := 28, ground := Go.Ground.phase }, { on := 29, ground := Go.Ground.phase }, { on := 30, ground := Go.Ground.phase }, { on := 31, ground := Go.Ground.phase }, { on := 32, ground := Go.Ground.phase }], guard := none }) rfl (by decide) (fun K hK => ?kz46_33) AllReadyL.nil
              have p0 : World.cell? y6 ⟨y2.heap.size, 0, none⟩ = some (.bool false) := cell_of_heap HJ6.out 0
              have g0 := frozen_of_heap HJ6.out 0
              have p1 : World.cell? y6 ⟨y2.heap.size, 1, none⟩ = some (.bool false) := cell_of_heap HJ6.out 1
              have g1 := frozen_of_heap HJ6.out 1
              have p2 : World.cell? y6 ⟨y2.heap.size, 2, none⟩ = some (.bool false) := cell_of_heap HJ6.out 2
              have g2 := frozen_of_heap HJ6.out 2
              have p3 : World.cell? y6 ⟨y2.heap.size, 3, none⟩ = some (.bool false) := cell_of_heap HJ6.out 3
              have g3 := frozen_of_heap HJ6.out 3
              have p4 : World.cell? y6 ⟨y2.heap.size, 4, none⟩ = some (.bool false) := cell_of_heap HJ6.out 4
              have g4 := frozen_of_heap HJ6.out 4
              have p5 : World.cell? y6 ⟨y2.heap.size, 5, none⟩ = some (.bool false) := cell_of_heap HJ6.out 5
              have g5 := frozen_of_heap HJ6.out 5
              have p6 : World.cell? y6 ⟨y2.heap.size, 6, none⟩ = some (.bool false) := cell_of_heap HJ6.out 6
              have g6 := frozen_of_heap HJ6.out 6
              have p7 : World.cell? y6 ⟨y2.heap.size, 7, none⟩ = some (.int .i64 0) := cell_of_heap HJ6.out 7
              have g7 := frozen_of_heap HJ6.out 7
              have p8 : World.cell? y6 ⟨y2.heap.size, 8, none⟩ = some (.bool false) := cell_of_heap HJ6.out 8
              have g8 := frozen_of_heap HJ6.out 8
              have p9 : World.cell? y6 ⟨y2.heap.size, 9, none⟩ = some (.bool false) := cell_of_heap HJ6.out 9
              have g9 := frozen_of_heap HJ6.out 9
              have p10 : World.cell? y6 ⟨y2.heap.size, 10, none⟩ = some (.int .i64 0) := cell_of_heap HJ6.out 10
              have g10 := frozen_of_heap HJ6.out 10
              have p11 : World.cell? y6 ⟨y2.heap.size, 11, none⟩ = some (.slice none 0 0) := cell_of_heap HJ6.out 11
              have g11 := frozen_of_heap HJ6.out 11
              go_simp
              refine hK.out _ _ ?_
              clear hK K
              try simp only [put_]
              refine wpAnyLast_done (by kernel_rfl) ?_ _
              go_wp2_with fail
              go_meet
              case rel =>
                have hJ0 : wa.heap.size ≤ y2.heap.size := DD2.out.size
                exact ⟨_, rfl, ⟨hJ0⟩, bonly DD6 ((((((((((((set_only _ _ _ _).trans (set_only _ _ _ _)).trans (set_only _ _ _ _)).trans (set_only _ _ _ _)).trans (set_only _ _ _ _)).trans (set_only _ _ _ _)).trans (set_only _ _ _ _)).trans (set_only _ _ _ _)).trans (set_only _ _ _ _)).trans (set_only _ _ _ _)).trans (set_only _ _ _ _)).trans (set_only _ _ _ _)) hJ0, ⟨by simpa using blk_set (blk_set (blk_set (blk_set (blk_set (blk_set (blk_set (blk_set (blk_set (blk_set (blk_set (blk_set (HJ6.out) 0 (.bool (sBar (dataR F st 0) (isR F st 0)).1)) 1 (.bool (sBar (dataR F st 0) (isR F st 0)).2.1)) 2 (.bool (sBar (dataR F st 0) (isR F st 0)).2.2.1)) 3 (.bool (sBar (dataR F st 0) (isR F st 0)).2.2.2)) 4 (.bool false)) 5 (.bool (sLamps (dataR F st 1) (isR F st 1)))) 6 (.bool (sObst (dataR F st 2) (isR F st 2)))) 7 (.int .i64 (sMode (dataR F st 3) (isR F st 3)))) 8 (.bool (sPower (dataR F st 4) (isR F st 4)).1)) 9 (.bool (sPower (dataR F st 4) (isR F st 4)).2)) 10 (.int .i64 (sRoutes (dataR F st 5) (isR F st 5) n))) 11 (.slice none 0 0)⟩⟩
          case kz28_32 =>
            have DD2 := balloc DD1 (.cells #[.bool false, .bool false, .bool false, .bool false, .bool false, .bool false, .bool false, .int .i64 0, .bool false, .bool false, .int .i64 0, .slice none 0 0] 36)
            have HJ2 := Aside0.mk (heap_new y1 (.cells #[.bool false, .bool false, .bool false, .bool false, .bool false, .bool false, .bool false, .int .i64 0, .bool false, .bool false, .int .i64 0, .slice none 0 0] 36))
            go_simp
            obtain ⟨y2, hy⟩ : ∃ y, y = (y1.alloc (.cells #[.bool false, .bool false, .bool false, .bool false, .bool false, .bool false, .bool false, .int .i64 0, .bool false, .bool false, .int .i64 0, .slice none 0 0] 36)) := ⟨_, rfl⟩
            rw [← hy] at DD2 HJ2 ⊢
            clear hy
            refine hK.out _ _ ?_ (fun hHeld => ?_)
            · exact HSK.out _ DD2.out
            clear hK K
            try simp only [put_]
            refine wpAnyLast_ready (rs := [9]) (by kernel_rfl) (by simp) ?_
            refine AllReadyL.cons (o := { dst := some 47, op := Go.Op.call { callee := Go.Callee.value (Go.Operand.func 39), args := #[Go.Operand.tmp 44, Go.Operand.tmp 46], argTypes := #[44, 4] }, type := 4, pos := "ref.go:39", after := #[{ on := 6, ground := Go.Ground.data }, { on := 8, ground := Go.Ground.data }, { on := 4, ground := Go.Ground.chain }], guard := none }) rfl (by decide) (fun K hK => ?kz47_9) AllReadyL.nil
            go_simp
            obtain ⟨-, hc3, hC3⟩ := Kd.R_reads' (Kd.R_below K1.out DD2.out)
            refine (crossbuckref13_Lamps.calls (A 1) (c 1) (dataR F st 1) (isR F st 1) _ _ hC3 hc3 (rLamps_eq _ (dataR_wf HBY.out 1))).mono ?_
            rintro e y3 ⟨rfl, hb3⟩
            replace hb3 := hb3.below
            have DD3 := Aside0.mk (below_thenB DD2.out hb3 DD2.out.size)
            have HJ3 := Aside0.mk (heap_below ⟨hb3⟩ HJ2.out)
            clear hb3 hC3 hc3
            go_simp
            refine hK.out _ _ ?_ (fun hHeld => ?_)
            · exact HSK.out _ DD3.out
            clear hK K
            try simp only [put_]
            refine wpAnyLast_ready (rs := [14]) (by kernel_rfl) (by simp) ?_
            refine AllReadyL.cons (o := { dst := some 52, op := Go.Op.call { callee := Go.Callee.value (Go.Operand.func 40), args := #[Go.Operand.tmp 49, Go.Operand.tmp 51], argTypes := #[44, 4] }, type := 4, pos := "ref.go:39", after := #[{ on := 11, ground := Go.Ground.data }, { on := 13, ground := Go.Ground.data }, { on := 9, ground := Go.Ground.chain }], guard := none }) rfl (by decide) (fun K hK => ?kz48_14) AllReadyL.nil
            go_simp
            obtain ⟨-, hc4, hC4⟩ := Kd.R_reads' (Kd.R_below K2.out DD3.out)
            refine (crossbuckref13_Obstacle.calls (A 2) (c 2) (dataR F st 2) (isR F st 2) _ _ hC4 hc4 (rObst_eq _ (dataR_wf HBY.out 2))).mono ?_
            rintro e y4 ⟨rfl, hb4⟩
            replace hb4 := hb4.below
            have DD4 := Aside0.mk (below_thenB DD3.out hb4 DD3.out.size)
            have HJ4 := Aside0.mk (heap_below ⟨hb4⟩ HJ3.out)
            clear hb4 hC4 hc4
            go_simp
            refine hK.out _ _ ?_ (fun hHeld => ?_)
            · exact HSK.out _ DD4.out
            clear hK K
            try simp only [put_]
            refine wpAnyLast_ready (rs := [19]) (by kernel_rfl) (by simp) ?_
            refine AllReadyL.cons (o := { dst := some 57, op := Go.Op.call { callee := Go.Callee.value (Go.Operand.func 41), args := #[Go.Operand.tmp 54, Go.Operand.tmp 56], argTypes := #[44, 4] }, type := 3, pos := "ref.go:39", after := #[{ on := 16, ground := Go.Ground.data }, { on := 18, ground := Go.Ground.data }, { on := 14, ground := Go.Ground.chain }], guard := none }) rfl (by decide) (fun K hK => ?kz49_19) AllReadyL.nil
            go_simp
            obtain ⟨-, hc5, hC5⟩ := Kd.R_reads' (Kd.R_below K3.out DD4.out)
            refine (crossbuckref13_Mode.calls (A 3) (c 3) (dataR F st 3) (isR F st 3) _ _ hC5 hc5 (rMode_eq _ (dataR_wf HBY.out 3))).mono ?_
            rintro e y5 ⟨rfl, hb5⟩
            replace hb5 := hb5.below
            have DD5 := Aside0.mk (below_thenB DD4.out hb5 DD4.out.size)
            have HJ5 := Aside0.mk (heap_below ⟨hb5⟩ HJ4.out)
            clear hb5 hC5 hc5
            go_simp
            refine hK.out _ _ ?_ (fun hHeld => ?_)
            · exact HSK.out _ DD5.out
            clear hK K
            try simp only [put_]
            refine wpAnyLast_ready (rs := [30]) (by kernel_rfl) (by simp) ?_
            refine AllReadyL.cons (o := { dst := some 68, op := Go.Op.call { callee := Go.Callee.value (Go.Operand.func 42), args := #[Go.Operand.tmp 61, Go.Operand.tmp 63, Go.Operand.tmp 67], argTypes := #[44, 4, 3] }, type := 3, pos := "ref.go:39", after := #[{ on := 23, ground := Go.Ground.data }, { on := 25, ground := Go.Ground.data }, { on := 29, ground := Go.Ground.data }, { on := 19, ground := Go.Ground.chain }], guard := none }) rfl (by decide) (fun K hK => ?kz50_30) AllReadyL.nil
            go_simp
            obtain ⟨-, hc6, hC6⟩ := Kd.R_reads' (Kd.R_below K5.out DD5.out)
            refine (crossbuckref13_Routes.calls 10 (A 5) (c 5) (dataR F st 5) (isR F st 5) (n : Int) _ _ hC6 hc6 (rRoutes_eq _ _ (dataR_wf HBY.out 5))).mono ?_
            rintro e y6 ⟨rfl, hb6⟩
            have DD6 := Aside0.mk (below_thenB DD5.out hb6 DD5.out.size)
            have HJ6 := Aside0.mk (heap_below ⟨hb6⟩ HJ5.out)
            clear hb6 hC6 hc6
            go_simp
            refine hK.out _ _ ?_ (fun hHeld => ?_)
            · exact HSK.out _ DD6.out
            clear hK K
            try simp only [put_]
            refine wpAnyLast_take (i := 31) (oi := { dst := some 69, op := Go.Op.build 36 #[(0, Go.Operand.tmp 42), (2, Go.Operand.tmp 47), (3, Go.Operand.tmp 52), (4, Go.Operand.tmp 57), (5, Go.Operand.tmp 58), (6, Go.Operand.tmp 59), (7, Go.Operand.tmp 68)], type := 36, pos := "ref.go:39", after := #[{ on := 4, ground := Go.Ground.data }, { on := 9, ground := Go.Ground.data }, { on := 14, ground := Go.Ground.data }, { on := 19, ground := Go.Ground.data }, { on := 20, ground := Go.Ground.data }, { on := 21, ground := Go.Ground.data }, { on := 30, ground := Go.Ground.data }], guard := none }) (v := ?vz51_31) rfl (by kernel_rfl) (by kernel_rfl) (by kernel_rfl) (by kernel_rfl) (by kernel_rfl) (fun _ _ _ h => h) (Or.inl ⟨by rfl, ?yz51_31⟩) (by assumption) ?rz51_31
            case yz51_31 => (((intro w hSw; (try dsimp only at hSw); go_simp) <;> with_reducible rfl))
            try simp only [put_]
            refine wpAnyLast_ready (rs := [33]) (by kernel_rfl) (by simp) ?_
            refine AllReadyL.cons_last (o := { dst := none, op := Go.Op.store 36 (Go.Operand.tmp 8) (Go.Operand.tmp 69), type := 0, pos := "ref.go:39", after := #[{ on := 32, ground := Go.Ground.data }, { on := 31, ground := Go.Ground.data }, { on := 30, ground := Go.Ground.chain }, { on := 0, ground := Go.Ground.phase }, { on := 1, ground := Go.Ground.phase }, { on := 2, ground := Go.Ground.phase }, { on := 3, ground := Go.Ground.phase }, { on := 4, ground := Go.Ground.phase }, { on := 5, ground := Go.Ground.phase }, { on := 6, ground := Go.Ground.phase }, { on := 7, ground := Go.Ground.phase }, { on := 8, ground := Go.Ground.phase }, { on := 9, ground := Go.Ground.phase }, { on := 10, ground := Go.Ground.phase }, { on := 11, ground := Go.Ground.phase }, { on := 12, ground := Go.Ground.phase }, { on := 13, ground := Go.Ground.phase }, { on := 14, ground := Go.Ground.phase }, { on := 15, ground := Go.Ground.phase }, { on := 16, ground := Go.Ground.phase }, { on := 17, ground := Go.Ground.phase }, { on := 18, ground := Go.Ground.phase }, { on := 19, ground := Go.Ground.phase }, { on := 20, ground := Go.Ground.phase }, { on := 21, ground := Go.Ground.phase }, { on := 22, ground := Go.Ground.phase }, { on := 23, ground := Go.Ground.phase }, { on := 24, ground := Go.Ground.phase }, { on := 25, ground := Go.Ground.phase }, { on := 26, ground := Go.Ground.phase }, { on := 27, ground := Go.Ground.phase }, { on := 28, ground := Go.Ground.phase }, { on := 29, ground := Go.Ground.phase }, { on := 30, ground := Go.Ground.phase }, { on := 31, ground := Go.Ground.phase }, { on := 32, ground := Go.Ground.phase }], guard := none }) rfl (by decide) (fun K hK => ?kz52_33) AllReadyL.nil
            have p0 : World.cell? y6 ⟨y1.heap.size, 0, none⟩ = some (.bool false) := cell_of_heap HJ6.out 0
            have g0 := frozen_of_heap HJ6.out 0
            have p1 : World.cell? y6 ⟨y1.heap.size, 1, none⟩ = some (.bool false) := cell_of_heap HJ6.out 1
            have g1 := frozen_of_heap HJ6.out 1
            have p2 : World.cell? y6 ⟨y1.heap.size, 2, none⟩ = some (.bool false) := cell_of_heap HJ6.out 2
            have g2 := frozen_of_heap HJ6.out 2
            have p3 : World.cell? y6 ⟨y1.heap.size, 3, none⟩ = some (.bool false) := cell_of_heap HJ6.out 3
            have g3 := frozen_of_heap HJ6.out 3
            have p4 : World.cell? y6 ⟨y1.heap.size, 4, none⟩ = some (.bool false) := cell_of_heap HJ6.out 4
            have g4 := frozen_of_heap HJ6.out 4
            have p5 : World.cell? y6 ⟨y1.heap.size, 5, none⟩ = some (.bool false) := cell_of_heap HJ6.out 5
            have g5 := frozen_of_heap HJ6.out 5
            have p6 : World.cell? y6 ⟨y1.heap.size, 6, none⟩ = some (.bool false) := cell_of_heap HJ6.out 6
            have g6 := frozen_of_heap HJ6.out 6
            have p7 : World.cell? y6 ⟨y1.heap.size, 7, none⟩ = some (.int .i64 0) := cell_of_heap HJ6.out 7
            have g7 := frozen_of_heap HJ6.out 7
            have p8 : World.cell? y6 ⟨y1.heap.size, 8, none⟩ = some (.bool false) := cell_of_heap HJ6.out 8
            have g8 := frozen_of_heap HJ6.out 8
            have p9 : World.cell? y6 ⟨y1.heap.size, 9, none⟩ = some (.bool false) := cell_of_heap HJ6.out 9
            have g9 := frozen_of_heap HJ6.out 9
            have p10 : World.cell? y6 ⟨y1.heap.size, 10, none⟩ = some (.int .i64 0) := cell_of_heap HJ6.out 10
            have g10 := frozen_of_heap HJ6.out 10
            have p11 : World.cell? y6 ⟨y1.heap.size, 11, none⟩ = some (.slice none 0 0) := cell_of_heap HJ6.out 11
            have g11 := frozen_of_heap HJ6.out 11
            go_simp
            refine hK.out _ _ ?_
            clear hK K
            try simp only [put_]
            refine wpAnyLast_done (by kernel_rfl) ?_ _
            go_wp2_with fail
            go_meet
            case rel =>
              have hJ0 : wa.heap.size ≤ y1.heap.size := DD1.out.size
              exact ⟨_, rfl, ⟨hJ0⟩, bonly DD6 ((((((((((((set_only _ _ _ _).trans (set_only _ _ _ _)).trans (set_only _ _ _ _)).trans (set_only _ _ _ _)).trans (set_only _ _ _ _)).trans (set_only _ _ _ _)).trans (set_only _ _ _ _)).trans (set_only _ _ _ _)).trans (set_only _ _ _ _)).trans (set_only _ _ _ _)).trans (set_only _ _ _ _)).trans (set_only _ _ _ _)) hJ0, ⟨by simpa using blk_set (blk_set (blk_set (blk_set (blk_set (blk_set (blk_set (blk_set (blk_set (blk_set (blk_set (blk_set (HJ6.out) 0 (.bool (sBar (dataR F st 0) (isR F st 0)).1)) 1 (.bool (sBar (dataR F st 0) (isR F st 0)).2.1)) 2 (.bool (sBar (dataR F st 0) (isR F st 0)).2.2.1)) 3 (.bool (sBar (dataR F st 0) (isR F st 0)).2.2.2)) 4 (.bool false)) 5 (.bool (sLamps (dataR F st 1) (isR F st 1)))) 6 (.bool (sObst (dataR F st 2) (isR F st 2)))) 7 (.int .i64 (sMode (dataR F st 3) (isR F st 3)))) 8 (.bool (sPower (dataR F st 4) (isR F st 4)).1)) 9 (.bool (sPower (dataR F st 4) (isR F st 4)).2)) 10 (.int .i64 (sRoutes (dataR F st 5) (isR F st 5) n))) 11 (.slice none 0 0)⟩⟩
        case kz27_32 =>
          have DD1 := balloc DD0 (.cells #[.bool false, .bool false, .bool false, .bool false, .bool false, .bool false, .bool false, .int .i64 0, .bool false, .bool false, .int .i64 0, .slice none 0 0] 36)
          have HJ1 := Aside0.mk (heap_new yd (.cells #[.bool false, .bool false, .bool false, .bool false, .bool false, .bool false, .bool false, .int .i64 0, .bool false, .bool false, .int .i64 0, .slice none 0 0] 36))
          go_simp
          obtain ⟨y1, hy⟩ : ∃ y, y = (yd.alloc (.cells #[.bool false, .bool false, .bool false, .bool false, .bool false, .bool false, .bool false, .int .i64 0, .bool false, .bool false, .int .i64 0, .slice none 0 0] 36)) := ⟨_, rfl⟩
          rw [← hy] at DD1 HJ1 ⊢
          clear hy
          refine hK.out _ _ ?_ (fun hHeld => ?_)
          · exact HSK.out _ DD1.out
          clear hK K
          try simp only [put_]
          refine wpAnyLast_ready (rs := [4]) (by kernel_rfl) (by simp) ?_
          refine AllReadyL.cons (o := { dst := some 42, op := Go.Op.call { callee := Go.Callee.value (Go.Operand.func 38), args := #[Go.Operand.tmp 39, Go.Operand.tmp 41], argTypes := #[44, 4] }, type := 33, pos := "ref.go:39", after := #[{ on := 1, ground := Go.Ground.data }, { on := 3, ground := Go.Ground.data }], guard := none }) rfl (by decide) (fun K hK => ?kz53_4) AllReadyL.nil
          go_simp
          obtain ⟨-, hc2, hC2⟩ := Kd.R_reads' (Kd.R_below K0.out DD1.out)
          refine (crossbuckref13_Barrier.calls 0 (A 0) (c 0) (dataR F st 0) (isR F st 0) _ _ _ _ _ hC2 hc2 (rBar_eq _ (dataR_wf HBY.out 0))).mono ?_
          rintro e y2 ⟨rfl, hb2⟩
          have DD2 := Aside0.mk (below_thenB DD1.out hb2 DD1.out.size)
          have HJ2 := Aside0.mk (heap_below ⟨hb2⟩ HJ1.out)
          clear hb2 hC2 hc2
          go_simp
          refine hK.out _ _ ?_ (fun hHeld => ?_)
          · exact HSK.out _ DD2.out
          clear hK K
          try simp only [put_]
          refine wpAnyLast_ready (rs := [9]) (by kernel_rfl) (by simp) ?_
          refine AllReadyL.cons (o := { dst := some 47, op := Go.Op.call { callee := Go.Callee.value (Go.Operand.func 39), args := #[Go.Operand.tmp 44, Go.Operand.tmp 46], argTypes := #[44, 4] }, type := 4, pos := "ref.go:39", after := #[{ on := 6, ground := Go.Ground.data }, { on := 8, ground := Go.Ground.data }, { on := 4, ground := Go.Ground.chain }], guard := none }) rfl (by decide) (fun K hK => ?kz54_9) AllReadyL.nil
          go_simp
          obtain ⟨-, hc3, hC3⟩ := Kd.R_reads' (Kd.R_below K1.out DD2.out)
          refine (crossbuckref13_Lamps.calls (A 1) (c 1) (dataR F st 1) (isR F st 1) _ _ hC3 hc3 (rLamps_eq _ (dataR_wf HBY.out 1))).mono ?_
          rintro e y3 ⟨rfl, hb3⟩
          replace hb3 := hb3.below
          have DD3 := Aside0.mk (below_thenB DD2.out hb3 DD2.out.size)
          have HJ3 := Aside0.mk (heap_below ⟨hb3⟩ HJ2.out)
          clear hb3 hC3 hc3
          go_simp
          refine hK.out _ _ ?_ (fun hHeld => ?_)
          · exact HSK.out _ DD3.out
          clear hK K
          try simp only [put_]
          refine wpAnyLast_ready (rs := [14]) (by kernel_rfl) (by simp) ?_
          refine AllReadyL.cons (o := { dst := some 52, op := Go.Op.call { callee := Go.Callee.value (Go.Operand.func 40), args := #[Go.Operand.tmp 49, Go.Operand.tmp 51], argTypes := #[44, 4] }, type := 4, pos := "ref.go:39", after := #[{ on := 11, ground := Go.Ground.data }, { on := 13, ground := Go.Ground.data }, { on := 9, ground := Go.Ground.chain }], guard := none }) rfl (by decide) (fun K hK => ?kz55_14) AllReadyL.nil
          go_simp
          obtain ⟨-, hc4, hC4⟩ := Kd.R_reads' (Kd.R_below K2.out DD3.out)
          refine (crossbuckref13_Obstacle.calls (A 2) (c 2) (dataR F st 2) (isR F st 2) _ _ hC4 hc4 (rObst_eq _ (dataR_wf HBY.out 2))).mono ?_
          rintro e y4 ⟨rfl, hb4⟩
          replace hb4 := hb4.below
          have DD4 := Aside0.mk (below_thenB DD3.out hb4 DD3.out.size)
          have HJ4 := Aside0.mk (heap_below ⟨hb4⟩ HJ3.out)
          clear hb4 hC4 hc4
          go_simp
          refine hK.out _ _ ?_ (fun hHeld => ?_)
          · exact HSK.out _ DD4.out
          clear hK K
          try simp only [put_]
          refine wpAnyLast_ready (rs := [19]) (by kernel_rfl) (by simp) ?_
          refine AllReadyL.cons (o := { dst := some 57, op := Go.Op.call { callee := Go.Callee.value (Go.Operand.func 41), args := #[Go.Operand.tmp 54, Go.Operand.tmp 56], argTypes := #[44, 4] }, type := 3, pos := "ref.go:39", after := #[{ on := 16, ground := Go.Ground.data }, { on := 18, ground := Go.Ground.data }, { on := 14, ground := Go.Ground.chain }], guard := none }) rfl (by decide) (fun K hK => ?kz56_19) AllReadyL.nil
          go_simp
          obtain ⟨-, hc5, hC5⟩ := Kd.R_reads' (Kd.R_below K3.out DD4.out)
          refine (crossbuckref13_Mode.calls (A 3) (c 3) (dataR F st 3) (isR F st 3) _ _ hC5 hc5 (rMode_eq _ (dataR_wf HBY.out 3))).mono ?_
          rintro e y5 ⟨rfl, hb5⟩
          replace hb5 := hb5.below
          have DD5 := Aside0.mk (below_thenB DD4.out hb5 DD4.out.size)
          have HJ5 := Aside0.mk (heap_below ⟨hb5⟩ HJ4.out)
          clear hb5 hC5 hc5
          go_simp
          refine hK.out _ _ ?_ (fun hHeld => ?_)
          · exact HSK.out _ DD5.out
          clear hK K
          try simp only [put_]
          refine wpAnyLast_ready (rs := [30]) (by kernel_rfl) (by simp) ?_
          refine AllReadyL.cons (o := { dst := some 68, op := Go.Op.call { callee := Go.Callee.value (Go.Operand.func 42), args := #[Go.Operand.tmp 61, Go.Operand.tmp 63, Go.Operand.tmp 67], argTypes := #[44, 4, 3] }, type := 3, pos := "ref.go:39", after := #[{ on := 23, ground := Go.Ground.data }, { on := 25, ground := Go.Ground.data }, { on := 29, ground := Go.Ground.data }, { on := 19, ground := Go.Ground.chain }], guard := none }) rfl (by decide) (fun K hK => ?kz57_30) AllReadyL.nil
          go_simp
          obtain ⟨-, hc6, hC6⟩ := Kd.R_reads' (Kd.R_below K5.out DD5.out)
          refine (crossbuckref13_Routes.calls 10 (A 5) (c 5) (dataR F st 5) (isR F st 5) (n : Int) _ _ hC6 hc6 (rRoutes_eq _ _ (dataR_wf HBY.out 5))).mono ?_
          rintro e y6 ⟨rfl, hb6⟩
          have DD6 := Aside0.mk (below_thenB DD5.out hb6 DD5.out.size)
          have HJ6 := Aside0.mk (heap_below ⟨hb6⟩ HJ5.out)
          clear hb6 hC6 hc6
          go_simp
          refine hK.out _ _ ?_ (fun hHeld => ?_)
          · exact HSK.out _ DD6.out
          clear hK K
          try simp only [put_]
          refine wpAnyLast_take (i := 31) (oi := { dst := some 69, op := Go.Op.build 36 #[(0, Go.Operand.tmp 42), (2, Go.Operand.tmp 47), (3, Go.Operand.tmp 52), (4, Go.Operand.tmp 57), (5, Go.Operand.tmp 58), (6, Go.Operand.tmp 59), (7, Go.Operand.tmp 68)], type := 36, pos := "ref.go:39", after := #[{ on := 4, ground := Go.Ground.data }, { on := 9, ground := Go.Ground.data }, { on := 14, ground := Go.Ground.data }, { on := 19, ground := Go.Ground.data }, { on := 20, ground := Go.Ground.data }, { on := 21, ground := Go.Ground.data }, { on := 30, ground := Go.Ground.data }], guard := none }) (v := ?vz58_31) rfl (by kernel_rfl) (by kernel_rfl) (by kernel_rfl) (by kernel_rfl) (by kernel_rfl) (fun _ _ _ h => h) (Or.inl ⟨by rfl, ?yz58_31⟩) (by assumption) ?rz58_31
          case yz58_31 => (((intro w hSw; (try dsimp only at hSw); go_simp) <;> with_reducible rfl))
          try simp only [put_]
          refine wpAnyLast_ready (rs := [33]) (by kernel_rfl) (by simp) ?_
          refine AllReadyL.cons_last (o := { dst := none, op := Go.Op.store 36 (Go.Operand.tmp 8) (Go.Operand.tmp 69), type := 0, pos := "ref.go:39", after := #[{ on := 32, ground := Go.Ground.data }, { on := 31, ground := Go.Ground.data }, { on := 30, ground := Go.Ground.chain }, { on := 0, ground := Go.Ground.phase }, { on := 1, ground := Go.Ground.phase }, { on := 2, ground := Go.Ground.phase }, { on := 3, ground := Go.Ground.phase }, { on := 4, ground := Go.Ground.phase }, { on := 5, ground := Go.Ground.phase }, { on := 6, ground := Go.Ground.phase }, { on := 7, ground := Go.Ground.phase }, { on := 8, ground := Go.Ground.phase }, { on := 9, ground := Go.Ground.phase }, { on := 10, ground := Go.Ground.phase }, { on := 11, ground := Go.Ground.phase }, { on := 12, ground := Go.Ground.phase }, { on := 13, ground := Go.Ground.phase }, { on := 14, ground := Go.Ground.phase }, { on := 15, ground := Go.Ground.phase }, { on := 16, ground := Go.Ground.phase }, { on := 17, ground := Go.Ground.phase }, { on := 18, ground := Go.Ground.phase }, { on := 19, ground := Go.Ground.phase }, { on := 20, ground := Go.Ground.phase }, { on := 21, ground := Go.Ground.phase }, { on := 22, ground := Go.Ground.phase }, { on := 23, ground := Go.Ground.phase }, { on := 24, ground := Go.Ground.phase }, { on := 25, ground := Go.Ground.phase }, { on := 26, ground := Go.Ground.phase }, { on := 27, ground := Go.Ground.phase }, { on := 28, ground := Go.Ground.phase }, { on := 29, ground := Go.Ground.phase }, { on := 30, ground := Go.Ground.phase }, { on := 31, ground := Go.Ground.phase }, { on := 32, ground := Go.Ground.phase }], guard := none }) rfl (by decide) (fun K hK => ?kz59_33) AllReadyL.nil
          have p0 : World.cell? y6 ⟨yd.heap.size, 0, none⟩ = some (.bool false) := cell_of_heap HJ6.out 0
          have g0 := frozen_of_heap HJ6.out 0
          have p1 : World.cell? y6 ⟨yd.heap.size, 1, none⟩ = some (.bool false) := cell_of_heap HJ6.out 1
          have g1 := frozen_of_heap HJ6.out 1
          have p2 : World.cell? y6 ⟨yd.heap.size, 2, none⟩ = some (.bool false) := cell_of_heap HJ6.out 2
          have g2 := frozen_of_heap HJ6.out 2
          have p3 : World.cell? y6 ⟨yd.heap.size, 3, none⟩ = some (.bool false) := cell_of_heap HJ6.out 3
          have g3 := frozen_of_heap HJ6.out 3
          have p4 : World.cell? y6 ⟨yd.heap.size, 4, none⟩ = some (.bool false) := cell_of_heap HJ6.out 4
          have g4 := frozen_of_heap HJ6.out 4
          have p5 : World.cell? y6 ⟨yd.heap.size, 5, none⟩ = some (.bool false) := cell_of_heap HJ6.out 5
          have g5 := frozen_of_heap HJ6.out 5
          have p6 : World.cell? y6 ⟨yd.heap.size, 6, none⟩ = some (.bool false) := cell_of_heap HJ6.out 6
          have g6 := frozen_of_heap HJ6.out 6
          have p7 : World.cell? y6 ⟨yd.heap.size, 7, none⟩ = some (.int .i64 0) := cell_of_heap HJ6.out 7
          have g7 := frozen_of_heap HJ6.out 7
          have p8 : World.cell? y6 ⟨yd.heap.size, 8, none⟩ = some (.bool false) := cell_of_heap HJ6.out 8
          have g8 := frozen_of_heap HJ6.out 8
          have p9 : World.cell? y6 ⟨yd.heap.size, 9, none⟩ = some (.bool false) := cell_of_heap HJ6.out 9
          have g9 := frozen_of_heap HJ6.out 9
          have p10 : World.cell? y6 ⟨yd.heap.size, 10, none⟩ = some (.int .i64 0) := cell_of_heap HJ6.out 10
          have g10 := frozen_of_heap HJ6.out 10
          have p11 : World.cell? y6 ⟨yd.heap.size, 11, none⟩ = some (.slice none 0 0) := cell_of_heap HJ6.out 11
          have g11 := frozen_of_heap HJ6.out 11
          go_simp
          refine hK.out _ _ ?_
          clear hK K
          try simp only [put_]
          refine wpAnyLast_done (by kernel_rfl) ?_ _
          go_wp2_with fail
          go_meet
          case rel =>
            have hJ0 : wa.heap.size ≤ yd.heap.size := DD0.out.size
            exact ⟨_, rfl, ⟨hJ0⟩, bonly DD6 ((((((((((((set_only _ _ _ _).trans (set_only _ _ _ _)).trans (set_only _ _ _ _)).trans (set_only _ _ _ _)).trans (set_only _ _ _ _)).trans (set_only _ _ _ _)).trans (set_only _ _ _ _)).trans (set_only _ _ _ _)).trans (set_only _ _ _ _)).trans (set_only _ _ _ _)).trans (set_only _ _ _ _)).trans (set_only _ _ _ _)) hJ0, ⟨by simpa using blk_set (blk_set (blk_set (blk_set (blk_set (blk_set (blk_set (blk_set (blk_set (blk_set (blk_set (blk_set (HJ6.out) 0 (.bool (sBar (dataR F st 0) (isR F st 0)).1)) 1 (.bool (sBar (dataR F st 0) (isR F st 0)).2.1)) 2 (.bool (sBar (dataR F st 0) (isR F st 0)).2.2.1)) 3 (.bool (sBar (dataR F st 0) (isR F st 0)).2.2.2)) 4 (.bool false)) 5 (.bool (sLamps (dataR F st 1) (isR F st 1)))) 6 (.bool (sObst (dataR F st 2) (isR F st 2)))) 7 (.int .i64 (sMode (dataR F st 3) (isR F st 3)))) 8 (.bool (sPower (dataR F st 4) (isR F st 4)).1)) 9 (.bool (sPower (dataR F st 4) (isR F st 4)).2)) 10 (.int .i64 (sRoutes (dataR F st 5) (isR F st 5) n))) 11 (.slice none 0 0)⟩⟩
      case rest =>
        obtain ⟨gJ, rfl, HGJ, BJ, HJ⟩ := hcut
        generalize wc = w5 at BJ HJ ⊢
        have hGa : w.heap.size + 3 ≤ wa.heap.size := by have := heap_lt HOa.out; omega
        have HG2 := Aside0.mk (show w.heap.size + 3 ≤ gJ by have := HGJ.out; omega)
        have hb := BJ.out
        have B5 := Aside0.mk (below_thenB Ba.out hb Ba.out.size)
        have L5 := Aside0.mk (La.out.below hb)
        have HA5 := Aside0.mk (heap_below ⟨hb⟩ HAa.out)
        have HX5 := Aside0.mk (heap_below ⟨hb⟩ HXa.out)
        clear hb Ba La HAa HXa HBa HOa K0 K1 K2 K3 K4 K5 BJ HGJ hGa HSK
        have k0 : World.cell? w5 ⟨x, 0, none⟩ = some (.pointer (some ⟨g, 0, none⟩)) := cell_of_heap HX5.out 0
        have HJ5 := HJ
        clear HJ
        go_wp2_with fail
        clear k0
        refine (RAt_calls w5 L5.out 0).mono ?_
        rintro e w6 ⟨v6, rfl, hR, hb⟩
        obtain ⟨A6, c6, rfl, -, -⟩ := Kd.R_reads hR
        have B6 := Aside0.mk (below_thenB B5.out hb B5.out.size)
        have L6 := Aside0.mk (L5.out.below hb)
        have HA6 := Aside0.mk (heap_below ⟨hb⟩ HA5.out)
        have HX6 := Aside0.mk (heap_below ⟨hb⟩ HX5.out)
        have HJ6 := Aside0.mk (heap_below ⟨hb⟩ HJ5.out)
        clear hR hb B5 L5 HA5 HX5 HJ5
        go_upto_region 10 with fail
        obtain ⟨w7, hw7⟩ : ∃ w7, w7 = w6.alloc (.cells #[.bool (atR F st 0).had, .int .i64 (atR F st 0).seq, .int .i64 (atR F st 0).age, .slice A6 (atR F st 0).data.length c6] 67) := ⟨_, rfl⟩
        have hb : Below w6.heap.size w6 w7 := by rw [hw7]; exact below_alloc (Below.refl _ _) _
        have hLL : w7.heap[w6.heap.size]? = some (.cells #[.bool (atR F st 0).had, .int .i64 (atR F st 0).seq, .int .i64 (atR F st 0).age, .slice A6 (atR F st 0).data.length c6] 67 (0, 0)) := by rw [hw7]; exact heap_new _ _
        rw [← hw7]
        have B7 := Aside0.mk (below_thenB B6.out hb B6.out.size)
        have L7 := Aside0.mk (L6.out.below hb)
        have HA7 := Aside0.mk (heap_below ⟨hb⟩ HA6.out)
        have HX7 := Aside0.mk (heap_below ⟨hb⟩ HX6.out)
        have HJ7 := Aside0.mk (heap_below ⟨hb⟩ HJ6.out)
        clear hw7 hb B6 L6 HA6 HX6 HJ6
        have j0 : World.cell? w7 ⟨w6.heap.size, 0, none⟩ = some (.bool (atR F st 0).had) := cell_of_heap hLL 0
        have j2 : World.cell? w7 ⟨w6.heap.size, 2, none⟩ = some (.int .i64 (atR F st 0).age) := cell_of_heap hLL 2
        have q4 : World.cell? w7 ⟨gJ, 4, none⟩ = some (.bool false) := cell_of_heap HJ7.out 4
        have f4 := frozen_of_heap HJ7.out 4
        clear hLL
        go_cut [] (fun wx => Aside0 (Only gJ w7 wx) ∧ Aside0 (wx.heap[gJ]? = some (.cells #[.bool (sBar (dataR F st 0) (isR F st 0)).1, .bool (sBar (dataR F st 0) (isR F st 0)).2.1, .bool (sBar (dataR F st 0) (isR F st 0)).2.2.1, .bool (sBar (dataR F st 0) (isR F st 0)).2.2.2, .bool ((atR F st 0).had && ((atR F st 0).age == 0)), .bool (sLamps (dataR F st 1) (isR F st 1)), .bool (sObst (dataR F st 2) (isR F st 2)), .int .i64 (sMode (dataR F st 3) (isR F st 3)), .bool (sPower (dataR F st 4) (isR F st 4)).1, .bool (sPower (dataR F st 4) (isR F st 4)).2, .int .i64 (sRoutes (dataR F st 5) (isR F st 5) n), .slice none 0 0] 36 (0, 0))))
        case first =>
          cases hh : (atR F st 0).had
          · rw [hh] at j0
            go_wp2_with fail
            go_meet
            case rel => exact ⟨⟨set_only _ _ _ _⟩, ⟨by rw [hh]; simpa using blk_set HJ7.out 4 (.bool false)⟩⟩
          · rw [hh] at j0
            go_wp2_with fail
            go_meet
            case rel => exact ⟨⟨set_only _ _ _ _⟩, ⟨by rw [hh]; simpa using blk_set HJ7.out 4 (.bool ((atR F st 0).age == 0))⟩⟩
        case rest =>
          obtain ⟨OJ, HJ8⟩ := hcut
          generalize wc = w8 at OJ HJ8 ⊢
          have HNE := Aside0.mk (show g ≠ gJ ∧ x ≠ gJ ∧ (∀ k, (ok k ∧ k < w.heap.size) → k ≠ gJ) ∧ w.heap.size ≠ gJ from ⟨by have := HLG.out; have := HG2.out; omega, by have := HLX.out; have := HG2.out; omega, fun k hk => by have := hk.2; have := HG2.out; omega, by have := HG2.out; omega⟩)
          have L8 := Aside0.mk (L7.out.only2 OJ.out HNE.out.1 HNE.out.2.2.1)
          have HX8 := Aside0.mk (heap_only OJ.out HNE.out.2.1 HX7.out)
          have HA8 := Aside0.mk (heap_only OJ.out HNE.out.2.2.2 HA7.out)
          have B8 := bonly B7 OJ.out (by have := HG2.out; omega)
          clear j0 j2 q4 f4 L7 HX7 HA7 B7 HJ7 OJ
          go_wp2_with fail
          go_loopw [10] (fun i W => ∃ (k : Nat) (v : Value), k ≤ n ∧ i = .int .i64 k ∧ Aside0 (RK W g F (fun k => ok k ∧ k < w.heap.size) st) ∧ Aside0 (W.heap[x]? = some (.cells #[.pointer (some ⟨g, 0, none⟩), .int .i64 n] 62 (0, 0))) ∧ Aside0 (W.heap[w.heap.size]? = some (.cells #[.bool false, .bool false, .bool false, .bool false, .bool false, .bool false, .bool false, .int .i64 0, .bool false, .bool false, .int .i64 0, .slice none 0 0] 36 (0, 0))) ∧ Aside0 (Below w.heap.size w W) ∧ Aside0 (W.heap[gJ]? = some (.cells #[.bool (sBar (dataR F st 0) (isR F st 0)).1, .bool (sBar (dataR F st 0) (isR F st 0)).2.1, .bool (sBar (dataR F st 0) (isR F st 0)).2.2.1, .bool (sBar (dataR F st 0) (isR F st 0)).2.2.2, .bool ((atR F st 0).had && ((atR F st 0).age == 0)), .bool (sLamps (dataR F st 1) (isR F st 1)), .bool (sObst (dataR F st 2) (isR F st 2)), .int .i64 (sMode (dataR F st 3) (isR F st 3)), .bool (sPower (dataR F st 4) (isR F st 4)).1, .bool (sPower (dataR F st 4) (isR F st 4)).2, .int .i64 (sRoutes (dataR F st 5) (isR F st 5) n), v] 36 (0, 0))) ∧ Aside0 (Kd.R k48 48 W w.heap.size (fun m => gJ < m) v (tracksOf (dataR F st) (isR F st) k))) (fun i _ => n - (intOf i).toNat)
          case atStart => exact ⟨0, _, by omega, rfl, L8, HX8, HA8, B8, HJ8, ⟨Kd.R_nil _ _ _ _ _⟩⟩
          case round =>
            obtain ⟨k, v, hk, rfl, LR, HXR, HAR, BR, HJR, RR⟩ := hrel
            obtain ⟨Av, cv, rfl, hcv, -⟩ := Kd.R_reads RR.out
            have k1 : World.cell? wr ⟨x, 1, none⟩ = some (.int .i64 n) := cell_of_heap HXR.out 1
            by_cases hlt : k < n
            · have dk : decide (k < n) = true := decide_eq_true hlt
              have k0 : World.cell? wr ⟨x, 0, none⟩ = some (.pointer (some ⟨g, 0, none⟩)) := cell_of_heap HXR.out 0
              have hk8 : (k : Int) ≤ 7 := by have := HK.out; omega
              obtain ⟨s, hs⟩ : ∃ s, s = sCnt (dataR F st (8 + (k : Int))) (isR F st (8 + (k : Int))) := ⟨_, rfl⟩
              have HS := Aside0.mk hs
              clear hs
              go_wp2_with fail
              clear k0 k1
              refine (RFresh_calls wr LR.out (8 + (k : Int))).mono ?_
              rintro e w15 ⟨v15, rfl, hR, hb⟩
              obtain ⟨A15, c15, rfl, hc15, hC15⟩ := Kd.R_reads hR
              have B15 := Aside0.mk (below_thenB BR.out hb BR.out.size)
              have L15 := Aside0.mk (LR.out.below hb)
              have HA15 := Aside0.mk (heap_below ⟨hb⟩ HAR.out)
              have HX15 := Aside0.mk (heap_below ⟨hb⟩ HXR.out)
              have HJ15 := Aside0.mk (heap_below ⟨hb⟩ HJR.out)
              replace hC15 := Kd.C_below hC15 (below_drew (Below.refl _ _))
              clear hR
              go_upto_region 15 with fail
              refine wp_region_last_drew (S := (fun W => W.cell? ⟨gJ, 11, none⟩ = some (.slice Av (tracksOf (dataR F st) (isR F st) k).length cv))) (ds := [8]) (by kernel_rfl) ?_ (fun hHeld => ?_)
              · exact cell_of_heap HJ15.out 11
              refine wpAnyLast_take (i := 0) (oi := { dst := some 101, op := Go.Op.fieldAddr 36 (Go.Operand.tmp 8) 8, type := 0, pos := "ref.go:44", after := #[], guard := none }) (v := ?vy0) rfl (by kernel_rfl) (by kernel_rfl) (by kernel_rfl) (by kernel_rfl) (by kernel_rfl) (fun _ _ _ h => h) (Or.inl ⟨by rfl, ?yy0⟩) (by assumption) ?ry0
              case yy0 => (((intro w hSw; (try dsimp only at hSw); go_simp) <;> with_reducible rfl))
              try simp only [put_]
              refine wpAnyLast_take (i := 1) (oi := { dst := some 102, op := Go.Op.load 34 (Go.Operand.tmp 101), type := 34, pos := "ref.go:44", after := #[{ on := 0, ground := Go.Ground.data }], guard := none }) (v := ?vy1) rfl (by kernel_rfl) (by kernel_rfl) (by kernel_rfl) (by kernel_rfl) (by kernel_rfl) (fun _ _ _ h => h) (Or.inl ⟨by rfl, ?yy1⟩) (by assumption) ?ry1
              case yy1 => (((intro w hSw; (try dsimp only at hSw); go_simp) <;> with_reducible rfl))
              try simp only [put_]
              refine wpAnyLast_take (i := 2) (oi := { dst := some 103, op := Go.Op.move (Go.Operand.tmp 11), type := 44, pos := "ref.go:44", after := #[], guard := none }) (v := ?vy2) rfl (by kernel_rfl) (by kernel_rfl) (by kernel_rfl) (by kernel_rfl) (by kernel_rfl) (fun _ _ _ h => h) (Or.inl ⟨by rfl, ?yy2⟩) (by assumption) ?ry2
              case yy2 => (((intro w hSw; (try dsimp only at hSw); go_simp) <;> with_reducible rfl))
              try simp only [put_]
              refine wpAnyLast_take (i := 3) (oi := { dst := some 104, op := Go.Op.move (Go.Operand.tmp 12), type := 4, pos := "ref.go:44", after := #[], guard := none }) (v := ?vy3) rfl (by kernel_rfl) (by kernel_rfl) (by kernel_rfl) (by kernel_rfl) (by kernel_rfl) (fun _ _ _ h => h) (Or.inl ⟨by rfl, ?yy3⟩) (by assumption) ?ry3
              case yy3 => (((intro w hSw; (try dsimp only at hSw); go_simp) <;> with_reducible rfl))
              try simp only [put_]
              refine wpAnyLast_ready (rs := [4]) (by kernel_rfl) (by simp) ?_
              refine AllReadyL.cons (o := { dst := some 105, op := Go.Op.call { callee := Go.Callee.value (Go.Operand.func 44), args := #[Go.Operand.tmp 103, Go.Operand.tmp 104], argTypes := #[44, 4] }, type := 48, pos := "ref.go:44", after := #[{ on := 2, ground := Go.Ground.data }, { on := 3, ground := Go.Ground.data }], guard := none }) rfl (by decide) (fun K hK => ?ky4) AllReadyL.nil
              go_simp
              refine (crossbuckref13_Counts.calls A15 c15 _ _ s.f0 s.f1 s.f2 s.f3 s.f4 w15.drew hC15 hc15 (by rw [HS.out]; exact rCnt_eq _ (dataR_wf HBY.out _))).mono ?_
              rintro e w16 ⟨rfl, hb2⟩
              replace hb2 := of_drew hb2
              have B16 := Aside0.mk (below_thenB B15.out hb2 B15.out.size)
              have L16 := Aside0.mk (L15.out.below hb2)
              have HA16 := Aside0.mk (heap_below ⟨hb2⟩ HA15.out)
              have HX16 := Aside0.mk (heap_below ⟨hb2⟩ HX15.out)
              have HJ16 := Aside0.mk (heap_below ⟨hb2⟩ HJ15.out)
              go_simp
              refine hK.out _ _ ?_ (fun hHeld => ?_)
              · exact cell_of_heap HJ16.out 11
              clear hK K
              try simp only [put_]
              refine wpAnyLast_ready (rs := [5]) (by kernel_rfl) (by simp) ?_
              refine AllReadyL.cons (o := { dst := some 106, op := Go.Op.buildSlice 34 1 #[(0, Go.Operand.tmp 105)], type := 34, pos := "ref.go:44", after := #[{ on := 4, ground := Go.Ground.data }], guard := none }) rfl (by decide) (fun K hK => ?ky5) AllReadyL.nil
              go_simp
              refine hK.out _ _ ?_ (fun hHeld => ?_)
              · exact cell_of_heap (heap_below ⟨below_alloc (Below.refl _ _) _⟩ HJ16.out) 11
              clear hK K
              try simp only [put_]
              refine wpAnyLast_ready (rs := [6]) (by kernel_rfl) (by simp) ?_
              refine AllReadyL.cons (o := { dst := some 107, op := Go.Op.call { callee := Go.Callee.builtin Go.Builtin.append, args := #[Go.Operand.tmp 102, Go.Operand.tmp 106], argTypes := #[34, 34] }, type := 34, pos := "ref.go:44", after := #[{ on := 1, ground := Go.Ground.data }, { on := 5, ground := Go.Ground.data }, { on := 4, ground := Go.Ground.chain }], guard := none }) rfl (by decide) (fun K hK => ?ky6) AllReadyL.nil
              refine Kd.R_append_rows_step k48 (Rr := k48.K (w16.alloc (.cells #[.bool s.f0, .int .i64 s.f1, .int .i64 s.f2, .int .i64 s.f3, .int .i64 s.f4] 48))) (w0 := w) w.heap.size rfl (.tmp 102) (.tmp 106) 34 48 (.agg #[.bool false, .int .i64 0, .int .i64 0, .int .i64 0, .int .i64 0]) 40 rfl Tryd.underlying34 info48 rfl (by decide) (by omega) (.slice Av (tracksOf (dataR F st) (isR F st) k).length cv) (tracksOf (dataR F st) (isR F st) k) [s] (some ⟨w16.heap.size, 0, none⟩) 1 1 (fun m => gJ < m) (fun _ => False) rfl rfl ?aO ?aR ?aK (fun _ h => h.elim) ?aF ?aB ?aS ?aL ?_
              case aO => exact Kd.R_below RR.out (below_alloc (below_thenB hb hb2 hb.size) _)
              case aR => exact C_cnt w16 s
              case aK => intro x cs hx; rw [k48_open hx]; exact k48_mkM _ _ _ _
              case aF => intro j hj; have := heap_lt HJ16.out; simp at hj; omega
              case aB => exact below_alloc B16.out _
              case aS => have := B16.out.size; simp; omega
              case aL => rw [tracksOf_len]; have := HK.out; omega
              intro v17 w17 ho hbw hg hat
              have hrow : ∀ i, i ≤ gJ → some i ≠ (Value.slice Av (tracksOf (dataR F st) (isR F st) k).length cv).ownBlock := fun i hi he => by have h1 : gJ < i := RR.out.1 i he.symm; omega
              have ba : Below w16.heap.size w16 (w16.alloc (.cells #[.bool s.f0, .int .i64 s.f1, .int .i64 s.f2, .int .i64 s.f3, .int .i64 s.f4] 48)) := below_alloc (Below.refl _ _) _
              have La := L16.out.below ba
              have HXa := heap_below ⟨ba⟩ HX16.out
              have HAa := heap_below ⟨ba⟩ HA16.out
              have HJa := heap_below ⟨ba⟩ HJ16.out
              have hg2 := HG2.out
              have L17 := Aside0.mk (La.step (hg.block g La.lt (hrow g (by have := HLG.out; omega))) (fun i hi hlt => hg.block i hlt (hrow i (by have := hi.2; omega))))
              have HX17 := Aside0.mk ((hg.block x (heap_lt HXa) (hrow x (by have := HLX.out; omega))).trans HXa)
              have HA17 := Aside0.mk ((hg.block _ (heap_lt HAa) (hrow _ (by omega))).trans HAa)
              have HJ17 := Aside0.mk ((hg.block _ (heap_lt HJa) (hrow _ (by omega))).trans HJa)
              have B17 := Aside0.mk hbw
              have R17 : Aside0 (Kd.R k48 48 w17 w.heap.size (fun m => gJ < m) v17 (tracksOf (dataR F st) (isR F st) (k + 1))) := ⟨by rw [tracksOf_succ, ← HS.out]; exact ho⟩
              obtain ⟨A17, c17, rfl, -, -⟩ := Kd.R_reads R17.out
              clear hat ho hg hrow ba La HXa HAa HJa hbw hg2
              refine hK.out _ _ ?_ (fun hHeld => ?_)
              · exact cell_of_heap HJ17.out 11
              clear hK K
              try simp only [put_]
              refine wpAnyLast_take (i := 7) (oi := { dst := some 108, op := Go.Op.fieldAddr 36 (Go.Operand.tmp 8) 8, type := 0, pos := "ref.go:44", after := #[{ on := 0, ground := Go.Ground.phase }, { on := 1, ground := Go.Ground.phase }, { on := 2, ground := Go.Ground.phase }, { on := 3, ground := Go.Ground.phase }, { on := 4, ground := Go.Ground.phase }, { on := 5, ground := Go.Ground.phase }, { on := 6, ground := Go.Ground.phase }], guard := none }) (v := ?vy7) rfl (by kernel_rfl) (by kernel_rfl) (by kernel_rfl) (by kernel_rfl) (by kernel_rfl) (fun _ _ _ h => h) (Or.inl ⟨by rfl, ?yy7⟩) (by assumption) ?ry7
              case yy7 => (((intro w hSw; (try dsimp only at hSw); go_simp) <;> with_reducible rfl))
              try simp only [put_]
              refine wpAnyLast_ready (rs := [8]) (by kernel_rfl) (by simp) ?_
              refine AllReadyL.cons_last (o := { dst := none, op := Go.Op.store 34 (Go.Operand.tmp 108) (Go.Operand.tmp 107), type := 0, pos := "ref.go:44", after := #[{ on := 7, ground := Go.Ground.data }, { on := 6, ground := Go.Ground.data }, { on := 6, ground := Go.Ground.chain }, { on := 0, ground := Go.Ground.phase }, { on := 1, ground := Go.Ground.phase }, { on := 2, ground := Go.Ground.phase }, { on := 3, ground := Go.Ground.phase }, { on := 4, ground := Go.Ground.phase }, { on := 5, ground := Go.Ground.phase }, { on := 6, ground := Go.Ground.phase }], guard := none }) rfl (by decide) (fun K hK => ?ky8) AllReadyL.nil
              have q11 : World.cell? w17 ⟨gJ, 11, none⟩ = some (.slice Av (tracksOf (dataR F st) (isR F st) k).length cv) := cell_of_heap HJ17.out 11
              have f11 := frozen_of_heap HJ17.out 11
              go_simp
              refine hK.out _ _ ?_
              clear hK K
              try simp only [put_]
              refine wpAnyLast_done (by kernel_rfl) ?_ _
              go_wp2_with fail
              have hlg := HLG.out
              have hg2 := HG2.out
              refine ⟨⟨k + 1, _, hlt, rfl, ⟨L17.out.only2 (set_only _ _ _ _) HNE.out.1 HNE.out.2.2.1⟩, ⟨heap_only (set_only _ _ _ _) HNE.out.2.1 HX17.out⟩, ⟨heap_only (set_only _ _ _ _) HNE.out.2.2.2 HA17.out⟩, bonly B17 (set_only _ _ _ _) (by omega), ⟨by simpa using blk_set HJ17.out 11 (.slice A17 (tracksOf (dataR F st) (isR F st) (k + 1)).length c17)⟩, ⟨Kd.R_far R17.out (fun j hj => by have h1 : gJ < j := hj; show j ≠ gJ; omega) _⟩⟩, by simp [intOf]; omega⟩
            · have dk : decide (k < n) = false := decide_eq_false hlt
              have hkn : n = k := by omega
              subst hkn
              have q0 : World.cell? wr ⟨gJ, 0, none⟩ = some (.bool (sBar (dataR F st 0) (isR F st 0)).1) := cell_of_heap HJR.out 0
              have r0 : World.cell? wr ⟨w.heap.size, 0, none⟩ = some (.bool false) := cell_of_heap HAR.out 0
              have z0 := frozen_of_heap HAR.out 0
              have q1 : World.cell? wr ⟨gJ, 1, none⟩ = some (.bool (sBar (dataR F st 0) (isR F st 0)).2.1) := cell_of_heap HJR.out 1
              have r1 : World.cell? wr ⟨w.heap.size, 1, none⟩ = some (.bool false) := cell_of_heap HAR.out 1
              have z1 := frozen_of_heap HAR.out 1
              have q2 : World.cell? wr ⟨gJ, 2, none⟩ = some (.bool (sBar (dataR F st 0) (isR F st 0)).2.2.1) := cell_of_heap HJR.out 2
              have r2 : World.cell? wr ⟨w.heap.size, 2, none⟩ = some (.bool false) := cell_of_heap HAR.out 2
              have z2 := frozen_of_heap HAR.out 2
              have q3 : World.cell? wr ⟨gJ, 3, none⟩ = some (.bool (sBar (dataR F st 0) (isR F st 0)).2.2.2) := cell_of_heap HJR.out 3
              have r3 : World.cell? wr ⟨w.heap.size, 3, none⟩ = some (.bool false) := cell_of_heap HAR.out 3
              have z3 := frozen_of_heap HAR.out 3
              have q4 : World.cell? wr ⟨gJ, 4, none⟩ = some (.bool ((atR F st 0).had && ((atR F st 0).age == 0))) := cell_of_heap HJR.out 4
              have r4 : World.cell? wr ⟨w.heap.size, 4, none⟩ = some (.bool false) := cell_of_heap HAR.out 4
              have z4 := frozen_of_heap HAR.out 4
              have q5 : World.cell? wr ⟨gJ, 5, none⟩ = some (.bool (sLamps (dataR F st 1) (isR F st 1))) := cell_of_heap HJR.out 5
              have r5 : World.cell? wr ⟨w.heap.size, 5, none⟩ = some (.bool false) := cell_of_heap HAR.out 5
              have z5 := frozen_of_heap HAR.out 5
              have q6 : World.cell? wr ⟨gJ, 6, none⟩ = some (.bool (sObst (dataR F st 2) (isR F st 2))) := cell_of_heap HJR.out 6
              have r6 : World.cell? wr ⟨w.heap.size, 6, none⟩ = some (.bool false) := cell_of_heap HAR.out 6
              have z6 := frozen_of_heap HAR.out 6
              have q7 : World.cell? wr ⟨gJ, 7, none⟩ = some (.int .i64 (sMode (dataR F st 3) (isR F st 3))) := cell_of_heap HJR.out 7
              have r7 : World.cell? wr ⟨w.heap.size, 7, none⟩ = some (.int .i64 0) := cell_of_heap HAR.out 7
              have z7 := frozen_of_heap HAR.out 7
              have q8 : World.cell? wr ⟨gJ, 8, none⟩ = some (.bool (sPower (dataR F st 4) (isR F st 4)).1) := cell_of_heap HJR.out 8
              have r8 : World.cell? wr ⟨w.heap.size, 8, none⟩ = some (.bool false) := cell_of_heap HAR.out 8
              have z8 := frozen_of_heap HAR.out 8
              have q9 : World.cell? wr ⟨gJ, 9, none⟩ = some (.bool (sPower (dataR F st 4) (isR F st 4)).2) := cell_of_heap HJR.out 9
              have r9 : World.cell? wr ⟨w.heap.size, 9, none⟩ = some (.bool false) := cell_of_heap HAR.out 9
              have z9 := frozen_of_heap HAR.out 9
              have q10 : World.cell? wr ⟨gJ, 10, none⟩ = some (.int .i64 (sRoutes (dataR F st 5) (isR F st 5) n)) := cell_of_heap HJR.out 10
              have r10 : World.cell? wr ⟨w.heap.size, 10, none⟩ = some (.int .i64 0) := cell_of_heap HAR.out 10
              have z10 := frozen_of_heap HAR.out 10
              have q11 : World.cell? wr ⟨gJ, 11, none⟩ = some (.slice Av (tracksOf (dataR F st) (isR F st) n).length cv) := cell_of_heap HJR.out 11
              have r11 : World.cell? wr ⟨w.heap.size, 11, none⟩ = some (.slice none 0 0) := cell_of_heap HAR.out 11
              have z11 := frozen_of_heap HAR.out 11
              go_wp2_with fail
              obtain ⟨w9, hw9⟩ : ∃ w9, w9 = ((((((((((((wr.setCell ⟨w.heap.size, 0, none⟩ (.bool (sBar (dataR F st 0) (isR F st 0)).1)).setCell ⟨w.heap.size, 1, none⟩ (.bool (sBar (dataR F st 0) (isR F st 0)).2.1)).setCell ⟨w.heap.size, 2, none⟩ (.bool (sBar (dataR F st 0) (isR F st 0)).2.2.1)).setCell ⟨w.heap.size, 3, none⟩ (.bool (sBar (dataR F st 0) (isR F st 0)).2.2.2)).setCell ⟨w.heap.size, 4, none⟩ (.bool ((atR F st 0).had && ((atR F st 0).age == 0)))).setCell ⟨w.heap.size, 5, none⟩ (.bool (sLamps (dataR F st 1) (isR F st 1)))).setCell ⟨w.heap.size, 6, none⟩ (.bool (sObst (dataR F st 2) (isR F st 2)))).setCell ⟨w.heap.size, 7, none⟩ (.int .i64 (sMode (dataR F st 3) (isR F st 3)))).setCell ⟨w.heap.size, 8, none⟩ (.bool (sPower (dataR F st 4) (isR F st 4)).1)).setCell ⟨w.heap.size, 9, none⟩ (.bool (sPower (dataR F st 4) (isR F st 4)).2)).setCell ⟨w.heap.size, 10, none⟩ (.int .i64 (sRoutes (dataR F st 5) (isR F st 5) n))).setCell ⟨w.heap.size, 11, none⟩ (.slice Av (tracksOf (dataR F st) (isR F st) n).length cv)) := ⟨_, rfl⟩
              have H9 : w9.heap[w.heap.size]? = some (.cells #[.bool (sBar (dataR F st 0) (isR F st 0)).1, .bool (sBar (dataR F st 0) (isR F st 0)).2.1, .bool (sBar (dataR F st 0) (isR F st 0)).2.2.1, .bool (sBar (dataR F st 0) (isR F st 0)).2.2.2, .bool ((atR F st 0).had && ((atR F st 0).age == 0)), .bool (sLamps (dataR F st 1) (isR F st 1)), .bool (sObst (dataR F st 2) (isR F st 2)), .int .i64 (sMode (dataR F st 3) (isR F st 3)), .bool (sPower (dataR F st 4) (isR F st 4)).1, .bool (sPower (dataR F st 4) (isR F st 4)).2, .int .i64 (sRoutes (dataR F st 5) (isR F st 5) n), .slice Av (tracksOf (dataR F st) (isR F st) n).length cv] 36 (0, 0)) := by rw [hw9]; simpa using blk_set (blk_set (blk_set (blk_set (blk_set (blk_set (blk_set (blk_set (blk_set (blk_set (blk_set (blk_set (HAR.out) 0 (.bool (sBar (dataR F st 0) (isR F st 0)).1)) 1 (.bool (sBar (dataR F st 0) (isR F st 0)).2.1)) 2 (.bool (sBar (dataR F st 0) (isR F st 0)).2.2.1)) 3 (.bool (sBar (dataR F st 0) (isR F st 0)).2.2.2)) 4 (.bool ((atR F st 0).had && ((atR F st 0).age == 0)))) 5 (.bool (sLamps (dataR F st 1) (isR F st 1)))) 6 (.bool (sObst (dataR F st 2) (isR F st 2)))) 7 (.int .i64 (sMode (dataR F st 3) (isR F st 3)))) 8 (.bool (sPower (dataR F st 4) (isR F st 4)).1)) 9 (.bool (sPower (dataR F st 4) (isR F st 4)).2)) 10 (.int .i64 (sRoutes (dataR F st 5) (isR F st 5) n))) 11 (.slice Av (tracksOf (dataR F st) (isR F st) n).length cv)
              have O9 : Only w.heap.size wr w9 := by rw [hw9]; exact ((((((((((((set_only _ _ _ _).trans (set_only _ _ _ _)).trans (set_only _ _ _ _)).trans (set_only _ _ _ _)).trans (set_only _ _ _ _)).trans (set_only _ _ _ _)).trans (set_only _ _ _ _)).trans (set_only _ _ _ _)).trans (set_only _ _ _ _)).trans (set_only _ _ _ _)).trans (set_only _ _ _ _)).trans (set_only _ _ _ _))
              rw [← hw9]
              clear hw9 k1 q0 r0 z0 q1 r1 z1 q2 r2 z2 q3 r3 z3 q4 r4 z4 q5 r5 z5 q6 r6 z6 q7 r7 z7 q8 r8 z8 q9 r9 z9 q10 r10 z10 q11 r11 z11
              have r0 : World.cell? w9 ⟨w.heap.size, 0, none⟩ = some (.bool (sBar (dataR F st 0) (isR F st 0)).1) := cell_of_heap H9 0
              have r1 : World.cell? w9 ⟨w.heap.size, 1, none⟩ = some (.bool (sBar (dataR F st 0) (isR F st 0)).2.1) := cell_of_heap H9 1
              have r2 : World.cell? w9 ⟨w.heap.size, 2, none⟩ = some (.bool (sBar (dataR F st 0) (isR F st 0)).2.2.1) := cell_of_heap H9 2
              have r3 : World.cell? w9 ⟨w.heap.size, 3, none⟩ = some (.bool (sBar (dataR F st 0) (isR F st 0)).2.2.2) := cell_of_heap H9 3
              have r4 : World.cell? w9 ⟨w.heap.size, 4, none⟩ = some (.bool ((atR F st 0).had && ((atR F st 0).age == 0))) := cell_of_heap H9 4
              have r5 : World.cell? w9 ⟨w.heap.size, 5, none⟩ = some (.bool (sLamps (dataR F st 1) (isR F st 1))) := cell_of_heap H9 5
              have r6 : World.cell? w9 ⟨w.heap.size, 6, none⟩ = some (.bool (sObst (dataR F st 2) (isR F st 2))) := cell_of_heap H9 6
              have r7 : World.cell? w9 ⟨w.heap.size, 7, none⟩ = some (.int .i64 (sMode (dataR F st 3) (isR F st 3))) := cell_of_heap H9 7
              have r8 : World.cell? w9 ⟨w.heap.size, 8, none⟩ = some (.bool (sPower (dataR F st 4) (isR F st 4)).1) := cell_of_heap H9 8
              have r9 : World.cell? w9 ⟨w.heap.size, 9, none⟩ = some (.bool (sPower (dataR F st 4) (isR F st 4)).2) := cell_of_heap H9 9
              have r10 : World.cell? w9 ⟨w.heap.size, 10, none⟩ = some (.int .i64 (sRoutes (dataR F st 5) (isR F st 5) n)) := cell_of_heap H9 10
              have r11 : World.cell? w9 ⟨w.heap.size, 11, none⟩ = some (.slice Av (tracksOf (dataR F st) (isR F st) n).length cv) := cell_of_heap H9 11
              refine bodyPost_ret (v := .agg #[.bool (sBar (dataR F st 0) (isR F st 0)).1, .bool (sBar (dataR F st 0) (isR F st 0)).2.1, .bool (sBar (dataR F st 0) (isR F st 0)).2.2.1, .bool (sBar (dataR F st 0) (isR F st 0)).2.2.2, .bool ((atR F st 0).had && ((atR F st 0).age == 0)), .bool (sLamps (dataR F st 1) (isR F st 1)), .bool (sObst (dataR F st 2) (isR F st 2)), .int .i64 (sMode (dataR F st 3) (isR F st 3)), .bool (sPower (dataR F st 4) (isR F st 4)).1, .bool (sPower (dataR F st 4) (isR F st 4)).2, .int .i64 (sRoutes (dataR F st 5) (isR F st 5) n), .slice Av (tracksOf (dataR F st) (isR F st) n).length cv]) (by simp [results, Tryd.results17, go_sem, r0, r1, r2, r3, r4, r5, r6, r7, r8, r9, r10, r11]) rfl ⟨.slice Av (tracksOf (dataR F st) (isR F st) n).length cv, ?_, ?_, (bonly BR O9 (Nat.le_refl _)).out⟩
              · rw [HI.out]; rfl
              · rw [HI.out]; exact Kd.R_mono (Kd.R_step RR.out (fun j hj hl => O9.block j hl (by have h1 : gJ < j := hj; have := HG2.out; omega))) (fun _ _ => trivial)
end Go.Proofs.YtfijlaahifeimaaDoor.PE
