/- link: LinkLast's walk. -/
import Derived.Test.YtcikcehphpbfhaaDoorHNone
import Derived.Test.YtcikcehphpbfhaaDoorHOpenL
import Derived.Laws.Bits64b
namespace Go.Proofs.YtcikcehphpbfhaaDoor.PE
open Go.RowKit Go.Extern.Stop Go.Stop Go.Extern Go.Proofs.YtcikcehphpbfhaaDoorW.PrintWords Go.Proofs.YtcikcehphpbfhaaDoorW.PrintLast Go.Proofs.YtcikcehphpbfhaaDoorW.PrintMore
set_option linter.unusedVariables false
set_option linter.unusedSimpArgs false
theorem and255 (x : Int) : bits .and .i64 x 255 = x % 256 := by
  show IntKind.i64.wrap ((BitVec.ofInt 64 x &&& BitVec.ofInt 64 255).toNat : Int) = _
  have h8 : (BitVec.ofInt 64 255).toNat = 2 ^ 8 - 1 := by decide
  rw [BitVec.toNat_and, BitVec.toNat_ofInt, h8, Nat.and_two_pow_sub_one_eq_mod]
  have e : (((x % ((2 ^ 64 : Nat) : Int)).toNat % 2 ^ 8 : Nat) : Int) = x % 256 := by omega
  rw [e]
  rw [IntKind.wrap_i64]
  omega
theorem wrap_and255 (x : Int) : bits .and .i64 (wrap64 x) 255 = x % 256 := by
  rw [and255]; unfold wrap64; omega
theorem rows_at {w : World} {A : Option Addr} {n : Nat} {l : List (List Int)} (h : Kd.C kRows w A n l) (i : Nat) (h1 : i < n) :
    ∃ ad B c, A = some ad ∧ w.cell? (ad.add i) = some (.slice B (l.getD i []).length c) ∧ (l.getD i []).length ≤ c ∧ Kd.C (Kd.int .u8) w B (l.getD i []).length (l.getD i []) := by
  obtain ⟨ad, cs, e, _, ⟨B, c, rfl, hl, hC⟩, hc⟩ := Kd.C_get h ([] : List Int) (i : Int) (by omega) (by omega)
  exact ⟨ad, B, c, e, by
    have h2 := hc 0 _ rfl
    have e : (i : Int).toNat * kRows.sz + 0 = i := by show (i : Int).toNat * 1 + 0 = i; omega
    rw [e] at h2; simpa using h2, hl, hC⟩
/-- Before round k: channel ch said row k - 1 at tick k, if k is positive. -/
def LastInv (ch seq : Int) (k : Nat) (S : Nat → Ch) : Prop := (k = 0 ∧ S = fun _ => Ch.zero) ∨ (0 < k ∧ ∃ xs, S ch.toNat = ⟨true, (seq + k - 1) % 256, k, xs⟩)
theorem last_take (F ch seq : Int) (k : Nat) (S : Nat → Ch) (xs : List Int) (h : LastInv ch seq k S) (hc : 0 ≤ ch ∧ ch ≤ 15) (hF : 1 ≤ F ∧ F ≤ 6000) (hx : xs.length ≤ 16) :
    takeE F (k + 1 : Nat) S ch ((seq + k) % 256) xs.length = 0 ∧ LastInv ch seq (k + 1) (takeS F (k + 1 : Nat) S ch ((seq + k) % 256) xs) ∧ takeS F (k + 1 : Nat) S ch ((seq + k) % 256) xs = upd S ch.toNat ⟨true, (seq + k) % 256, (k + 1 : Nat), xs⟩ := by
  have ha : ¬ argF ch ((seq + k) % 256) xs.length := by unfold argF; omega
  have hz : takeE F (k + 1 : Nat) S ch ((seq + k) % 256) xs.length = 0 := by
    unfold takeE
    rw [if_neg ha, if_neg]
    rcases h with ⟨_, rfl⟩ | ⟨_, ys, hs⟩
    · simp [oldF, Ch.fresh, Ch.zero]
    · unfold oldF
      rw [hs]
      have e : ((seq + k) % 256 - (seq + k - 1) % 256 + 256) % 256 = 1 := by omega
      show ¬ ((_ && (decide (((seq + k) % 256 - (seq + k - 1) % 256 + 256) % 256 = 0) || decide (16 < ((seq + k) % 256 - (seq + k - 1) % 256 + 256) % 256))) = true)
      rw [e]
      simp
  have hS : takeS F (k + 1 : Nat) S ch ((seq + k) % 256) xs = upd S ch.toNat ⟨true, (seq + k) % 256, (k + 1 : Nat), xs⟩ := by
    unfold takeS; rw [hz, if_pos rfl]
  refine ⟨hz, .inr ⟨by omega, xs, ?_⟩, hS⟩
  rw [hS, upd_same]
  have e : (seq + ((k + 1 : Nat) : Int) - 1) % 256 = (seq + k) % 256 := by congr 1; omega
  rw [e]
theorem last_at (F n ch q : Int) (S1 : Nat → Ch) (xs : List Int) (hF : 1 ≤ F ∧ F ≤ 6000) (hc : 0 ≤ ch ∧ ch ≤ 15) :
    isF F n (upd S1 ch.toNat ⟨true, q, n, xs⟩) ch = true ∧ dataF F n (upd S1 ch.toNat ⟨true, q, n, xs⟩) ch = xs ∧ atF F n (upd S1 ch.toNat ⟨true, q, n, xs⟩) ch = ⟨true, q, 0, xs⟩ := by
  have h1 : isF F n (upd S1 ch.toNat ⟨true, q, n, xs⟩) ch = true := by
    unfold isF Ch.fresh
    rw [upd_same, decide_eq_true hc]
    simp; omega
  have h2 : dataF F n (upd S1 ch.toNat ⟨true, q, n, xs⟩) ch = xs := by unfold dataF; rw [h1, upd_same]; rfl
  refine ⟨h1, h2, ?_⟩
  unfold atF
  rw [h2, upd_same, if_pos ⟨hc, rfl⟩]
  have : Ch.age F n ⟨true, q, n, xs⟩ = 0 := by simp [Ch.age]; omega
  rw [this]
set_option maxHeartbeats 16000000 in
set_option maxRecDepth 100000 in
theorem last_calls (f ch seq : Int) (A : Option Addr) (c : Nat) (l : List (List Int)) (w : World) (hC : Kd.C kRows w A l.length l) (hg : Gerr w) : Calls Tryd.prog 8 #[.int .i64 f, .int .i64 ch, .int .i64 seq, .slice A l.length c] w fun e w' => e = .returned (.bool true) ∧ Below w.heap.size w w' := by
  have HG := Aside0.mk hg
  have HC := Aside0.mk hC
  clear hg hC
  by_cases h0 : ch < 0
  · have dh0 : decide (ch < 0) = true := decide_eq_true h0
    go_enter Tryd.func8, Tryd.ntmps8
    go_wp2_with fail
    refine (small_calls w HG.out).mono ?_
    rintro e w1 ⟨rfl, hb⟩
    have B1 := Aside0.mk hb
    clear hb
    go_wp2_with fail
    refine (NewN f w1).mono ?_
    rintro e w2 ⟨rfl, hL, hb⟩
    have B2 := Aside0.mk (below_thenB B1.out hb B1.out.size)
    have L2 := Aside0.mk hL
    clear hL hb
    generalize hF : max 1 (min f 6000) = F at L2
    have hF1 : 1 ≤ F ∧ F ≤ 6000 := by omega
    have hg1 : w.heap.size ≤ w1.heap.size := B1.out.size
    go_wp2_with fail
    go_ret
    exact ⟨rfl, B2.out⟩
  have dh0 : decide (ch < 0) = false := decide_eq_false h0
  by_cases h1 : 15 < ch
  · have dh1 : decide (15 < ch) = true := decide_eq_true h1
    go_enter Tryd.func8, Tryd.ntmps8
    go_wp2_with fail
    refine (small_calls w HG.out).mono ?_
    rintro e w1 ⟨rfl, hb⟩
    have B1 := Aside0.mk hb
    clear hb
    go_wp2_with fail
    refine (NewN f w1).mono ?_
    rintro e w2 ⟨rfl, hL, hb⟩
    have B2 := Aside0.mk (below_thenB B1.out hb B1.out.size)
    have L2 := Aside0.mk hL
    clear hL hb
    generalize hF : max 1 (min f 6000) = F at L2
    have hF1 : 1 ≤ F ∧ F ≤ 6000 := by omega
    have hg1 : w.heap.size ≤ w1.heap.size := B1.out.size
    go_wp2_with fail
    go_ret
    exact ⟨rfl, B2.out⟩
  have dh1 : decide (15 < ch) = false := decide_eq_false h1
  by_cases h2 : 300 < (l.length : Int)
  · have dh2 : decide (300 < (l.length : Int)) = true := decide_eq_true h2
    go_enter Tryd.func8, Tryd.ntmps8
    go_wp2_with fail
    refine (small_calls w HG.out).mono ?_
    rintro e w1 ⟨rfl, hb⟩
    have B1 := Aside0.mk hb
    clear hb
    go_wp2_with fail
    refine (NewN f w1).mono ?_
    rintro e w2 ⟨rfl, hL, hb⟩
    have B2 := Aside0.mk (below_thenB B1.out hb B1.out.size)
    have L2 := Aside0.mk hL
    clear hL hb
    generalize hF : max 1 (min f 6000) = F at L2
    have hF1 : 1 ≤ F ∧ F ≤ 6000 := by omega
    have hg1 : w.heap.size ≤ w1.heap.size := B1.out.size
    go_wp2_with fail
    go_ret
    exact ⟨rfl, B2.out⟩
  have dh2 : decide (300 < (l.length : Int)) = false := decide_eq_false h2
  go_enter Tryd.func8, Tryd.ntmps8
  go_wp2_with fail
  refine (small_calls w HG.out).mono ?_
  rintro e w1 ⟨rfl, hb⟩
  have B1 := Aside0.mk hb
  clear hb
  go_wp2_with fail
  refine (NewN f w1).mono ?_
  rintro e w2 ⟨rfl, hL, hb⟩
  have B2 := Aside0.mk (below_thenB B1.out hb B1.out.size)
  have L2 := Aside0.mk hL
  clear hL hb
  generalize hF : max 1 (min f 6000) = F at L2
  have hF1 : 1 ≤ F ∧ F ≤ 6000 := by omega
  have hg1 : w.heap.size ≤ w1.heap.size := B1.out.size
  go_wp2_with fail
  have hc : 0 ≤ ch ∧ ch ≤ 15 := by omega
  have hl3 : (l.length : Int) ≤ 300 := by omega
  go_loopw [11] (fun i W => ∃ k : Nat, k ≤ l.length ∧ i = .int .i64 k ∧ (∃ S, Aside0 (LN W w1.heap.size F k S) ∧ Aside0 (LastInv ch seq k S)) ∧ Aside0 (Below w.heap.size w W)) (fun i _ => l.length - (intOf i).toNat)
  case atStart => exact ⟨0, by omega, rfl, ⟨_, L2, ⟨.inl ⟨rfl, rfl⟩⟩⟩, B2⟩
  case round =>
    obtain ⟨k, hk, rfl, ⟨S, L3, HI⟩, B3⟩ := hrel
    by_cases hlt : (k : Int) < (l.length : Int)
    · have dk : decide ((k : Int) < (l.length : Int)) = true := decide_eq_true hlt
      have hi : 0 ≤ (k : Int) ∧ (k : Int) < (l.length : Int) := by omega
      obtain ⟨ad, B, cc, hA, hcell0, hxc, hCx⟩ := rows_at HC.out k (by omega)
      subst hA
      obtain ⟨xs, hxs⟩ : ∃ xs, xs = l.getD k [] := ⟨_, rfl⟩
      rw [← hxs] at hcell0 hxc hCx
      have HX := Aside0.mk hxs
      have HCX := Aside0.mk hCx
      have HCE := Aside0.mk hcell0
      clear hxs hCx hcell0
      have HK := Aside0.mk (show ((k + 1 : Nat) : Int) ≤ 1000000 by omega)
      have HM := Aside0.mk (show l.length - (k + 1) < l.length - k by omega)
      have HN := Aside0.mk (show k + 1 ≤ l.length by omega)
      have HW64 := Aside0.mk (show wrap64 ((k : Int) + 1) = k + 1 by unfold wrap64; omega)
      have hcell := bcellA B3 HCE.out
      by_cases hbig : 16 < (xs.length : Int)
      · have d16 : decide (16 < (xs.length : Int)) = true := decide_eq_true hbig
        go_wp2_with fail
        go_ret
        exact ⟨rfl, B3.out⟩
      have d16 : decide (16 < (xs.length : Int)) = false := decide_eq_false hbig
      have HX16 := Aside0.mk (show xs.length ≤ 16 by omega)
      have HQ := Aside0.mk (wrap_and255 (seq + (k : Int)))
      obtain ⟨q, hqe⟩ : ∃ q, q = (seq + (k : Int)) % 256 := ⟨_, rfl⟩
      rw [← hqe] at HQ
      have HT := Aside0.mk (last_take F ch seq k S xs HI.out hc hF1 (by omega))
      have HS := Aside0.mk (last_at F (k + 1 : Nat) ch q S xs hF1 hc)
      rw [← hqe] at HT
      clear hqe
      go_wp2_with fail
      clear hcell
      refine (Tick_calls wr L3.out (by have := HK.out; omega)).mono ?_
      rintro e w4 ⟨rfl, hL, hO⟩
      have L4 : Aside0 (LN w4 w1.heap.size F (k + 1 : Nat) S) := Aside0.mk hL
      have B4 := bonly B3 hO hg1
      clear hL hO
      have hq := HQ.out
      have hcell := bcellA B4 HCE.out
      go_wp2_with fail
      clear hcell hq
      refine (TakeN w4 L4.out HK.out ch q B xs.length cc xs (Kd.C_below HCX.out B4.out) (by have := HX16.out; omega)).mono ?_
      rintro e w5 ⟨v5, rfl, hE, hL, hO⟩
      have B5 := bonly B4 hO hg1
      rw [HT.out.1] at hE
      have := hE.nil; subst this
      rw [HT.out.2.2] at hL
      have HI2 := HT.out.2.1
      rw [HT.out.2.2] at HI2
      have HJ := Aside0.mk HI2
      obtain ⟨S2, hS2⟩ : ∃ S2, S2 = upd S ch.toNat ⟨true, q, (k + 1 : Nat), xs⟩ := ⟨_, rfl⟩
      rw [← hS2] at HS HJ hL
      have L5 := Aside0.mk hL
      clear hE hL hO HI2 hS2 HT
      go_wp2_with fail
      have hA := Fresh_calls w5 L5.out HK.out ch
      rw [HS.out.1, HS.out.2.1] at hA
      refine hA.mono ?_
      clear hA
      rintro e w6 ⟨v6, rfl, hR, hb⟩
      obtain ⟨A6, c6, rfl, -, hC6⟩ := Kd.R_reads hR
      have B6 := Aside0.mk (below_thenB B5.out hb B5.out.size)
      have L6 := Aside0.mk (L5.out.below hb)
      have HC6 := Aside0.mk hC6
      have HSK : Aside0 (∀ W, Below w6.heap.size w6 W → (fun W => (convert 28 9 (.slice A6 xs.length c6)).run Tryd.prog W = .ok (.string (strOfNums xs)) W ∧ (convert 28 9 (.slice B xs.length cc)).run Tryd.prog W = .ok (.string (strOfNums xs)) W ∧ W.cell? (ad.add k) = some (.slice B xs.length cc)) W) := ⟨fun W hW => ⟨Kd.C_string (P := Tryd.prog) (src := 28) (dst := 9) (e := 5) (c := c6) Tryd.underlying28 Tryd.underlying5 Tryd.underlying9 (Kd.C_below HC6.out hW), Kd.C_string (P := Tryd.prog) (src := 28) (dst := 9) (e := 5) (c := cc) Tryd.underlying28 Tryd.underlying5 Tryd.underlying9 (Kd.C_below (Kd.C_below HCX.out B6.out) hW), pw_cell_below hW (bcellA B6 HCE.out)⟩⟩
      clear hR hb hC6
      have hq := HQ.out
      have hfa := field43_2
      have hfs := field43_1
      go_upto_region 13 with fail
      go_cut [104] (fun v W => v = .bool false ∧ Aside0 (Below w6.heap.size w6 W))
      case first =>
        refine wp_region_held_drew (S := (fun W => (convert 28 9 (.slice A6 xs.length c6)).run Tryd.prog W = .ok (.string (strOfNums xs)) W ∧ (convert 28 9 (.slice B xs.length cc)).run Tryd.prog W = .ok (.string (strOfNums xs)) W ∧ W.cell? (ad.add k) = some (.slice B xs.length cc))) (by kernel_rfl) ?_ (fun hHeld => ?_)
        · exact HSK.out _ (below_drew (Below.refl _ _))
        refine wpAnyH_take (i := 0) (oi := { dst := some 71, op := Go.Op.move (Go.Operand.tmp 12), type := 36, pos := "law.go:172", after := #[], guard := none }) (v := ?vz0) rfl (by kernel_rfl) (by kernel_rfl) (by kernel_rfl) (fun _ _ _ h => h) (Or.inl ⟨by rfl, ?yz0⟩) (by assumption) ?rz0
        case yz0 => ((intro w hSw; (try dsimp only at hSw); go_simp) <;> with_reducible rfl)
        try simp only [Act.put, List.setIfInBounds_toArray, List.set_cons_zero, List.set_cons_succ]
        refine wpAnyH_take (i := 1) (oi := { dst := some 72, op := Go.Op.binOp Go.BinOp.neq 36 (Go.Operand.tmp 71) (Go.Operand.const Go.Value.nilIface) 36, type := 4, pos := "law.go:172", after := #[{ on := 0, ground := Go.Ground.data }], guard := none }) (v := ?vz1) rfl (by kernel_rfl) (by kernel_rfl) (by kernel_rfl) (fun _ _ _ h => h) (Or.inl ⟨by rfl, ?yz1⟩) (by assumption) ?rz1
        case yz1 => ((intro w hSw; (try dsimp only at hSw); go_simp) <;> with_reducible rfl)
        try simp only [Act.put, List.setIfInBounds_toArray, List.set_cons_zero, List.set_cons_succ]
        refine wpAnyH_take (i := 2) (oi := { dst := some 73, op := Go.Op.move (Go.Operand.tmp 72), type := 4, pos := "law.go:172", after := #[{ on := 1, ground := Go.Ground.data }], guard := none }) (v := ?vz2) rfl (by kernel_rfl) (by kernel_rfl) (by kernel_rfl) (fun _ _ _ h => h) (Or.inl ⟨by rfl, ?yz2⟩) (by assumption) ?rz2
        case yz2 => ((intro w hSw; (try dsimp only at hSw); go_simp) <;> with_reducible rfl)
        try simp only [Act.put, List.setIfInBounds_toArray, List.set_cons_zero, List.set_cons_succ]
        refine wpAnyH_take (i := 3) (oi := { dst := some 74, op := Go.Op.move (Go.Operand.tmp 14), type := 4, pos := "law.go:172", after := #[{ on := 2, ground := Go.Ground.guard }], guard := some (2, false) }) (v := ?vz3) rfl (by kernel_rfl) (by kernel_rfl) (by kernel_rfl) (fun _ _ _ h => h) (Or.inl ⟨by rfl, ?yz3⟩) (by assumption) ?rz3
        case yz3 => ((intro w hSw; (try dsimp only at hSw); go_simp) <;> with_reducible rfl)
        try simp only [Act.put, List.setIfInBounds_toArray, List.set_cons_zero, List.set_cons_succ]
        refine wpAnyH_take (i := 4) (oi := { dst := some 75, op := Go.Op.unOp Go.UnOp.not 4 (Go.Operand.tmp 74), type := 4, pos := "law.go:172", after := #[{ on := 3, ground := Go.Ground.data }, { on := 2, ground := Go.Ground.guard }], guard := some (2, false) }) (v := ?vz4) rfl (by kernel_rfl) (by kernel_rfl) (by kernel_rfl) (fun _ _ _ h => h) (Or.inl ⟨by rfl, ?yz4⟩) (by assumption) ?rz4
        case yz4 => ((intro w hSw; (try dsimp only at hSw); go_simp) <;> with_reducible rfl)
        try simp only [Act.put, List.setIfInBounds_toArray, List.set_cons_zero, List.set_cons_succ]
        refine wpAnyH_take (i := 5) (oi := { dst := some 76, op := Go.Op.pick (Go.Operand.tmp 73) (Go.Operand.const (Go.Value.bool true)) (Go.Operand.tmp 75), type := 4, pos := "law.go:172", after := #[{ on := 2, ground := Go.Ground.data }, { on := 4, ground := Go.Ground.data }], guard := none }) (v := ?vz5) rfl (by kernel_rfl) (by kernel_rfl) (by kernel_rfl) (fun _ _ _ h => h) (Or.inl ⟨by rfl, ?yz5⟩) (by assumption) ?rz5
        case yz5 => ((intro w hSw; (try dsimp only at hSw); go_simp) <;> with_reducible rfl)
        try simp only [Act.put, List.setIfInBounds_toArray, List.set_cons_zero, List.set_cons_succ]
        refine wpAnyH_take (i := 6) (oi := { dst := some 77, op := Go.Op.move (Go.Operand.tmp 76), type := 4, pos := "law.go:172", after := #[{ on := 5, ground := Go.Ground.data }, { on := 2, ground := Go.Ground.chain }], guard := none }) (v := ?vz6) rfl (by kernel_rfl) (by kernel_rfl) (by kernel_rfl) (fun _ _ _ h => h) (Or.inl ⟨by rfl, ?yz6⟩) (by assumption) ?rz6
        case yz6 => ((intro w hSw; (try dsimp only at hSw); go_simp) <;> with_reducible rfl)
        try simp only [Act.put, List.setIfInBounds_toArray, List.set_cons_zero, List.set_cons_succ]
        refine wpAnyH_take (i := 7) (oi := { dst := some 78, op := Go.Op.move (Go.Operand.tmp 13), type := 28, pos := "law.go:172", after := #[{ on := 6, ground := Go.Ground.guard }], guard := some (6, false) }) (v := ?vz7) rfl (by kernel_rfl) (by kernel_rfl) (by kernel_rfl) (fun _ _ _ h => h) (Or.inl ⟨by rfl, ?yz7⟩) (by assumption) ?rz7
        case yz7 => ((intro w hSw; (try dsimp only at hSw); go_simp) <;> with_reducible rfl)
        try simp only [Act.put, List.setIfInBounds_toArray, List.set_cons_zero, List.set_cons_succ]
        refine wpAnyH_take (i := 8) (oi := { dst := some 79, op := Go.Op.convert 28 9 (Go.Operand.tmp 78), type := 9, pos := "law.go:172", after := #[{ on := 7, ground := Go.Ground.data }, { on := 6, ground := Go.Ground.guard }], guard := some (6, false) }) (v := ?vz8) rfl (by kernel_rfl) (by kernel_rfl) (by kernel_rfl) (fun _ _ _ h => h) (Or.inl ⟨by rfl, ?yz8⟩) (by assumption) ?rz8
        case yz8 => ((intro w hSw; (try dsimp only at hSw); go_simp) <;> with_reducible rfl)
        try simp only [Act.put, List.setIfInBounds_toArray, List.set_cons_zero, List.set_cons_succ]
        refine wpAnyH_take (i := 9) (oi := { dst := some 80, op := Go.Op.move (Go.Operand.tmp 3), type := 51, pos := "law.go:172", after := #[{ on := 6, ground := Go.Ground.guard }], guard := some (6, false) }) (v := ?vz9) rfl (by kernel_rfl) (by kernel_rfl) (by kernel_rfl) (fun _ _ _ h => h) (Or.inl ⟨by rfl, ?yz9⟩) (by assumption) ?rz9
        case yz9 => ((intro w hSw; (try dsimp only at hSw); go_simp) <;> with_reducible rfl)
        try simp only [Act.put, List.setIfInBounds_toArray, List.set_cons_zero, List.set_cons_succ]
        refine wpAnyH_take (i := 10) (oi := { dst := some 81, op := Go.Op.move (Go.Operand.tmp 11), type := 3, pos := "law.go:172", after := #[{ on := 6, ground := Go.Ground.guard }], guard := some (6, false) }) (v := ?vz10) rfl (by kernel_rfl) (by kernel_rfl) (by kernel_rfl) (fun _ _ _ h => h) (Or.inl ⟨by rfl, ?yz10⟩) (by assumption) ?rz10
        case yz10 => ((intro w hSw; (try dsimp only at hSw); go_simp) <;> with_reducible rfl)
        try simp only [Act.put, List.setIfInBounds_toArray, List.set_cons_zero, List.set_cons_succ]
        refine wpAnyH_take (i := 11) (oi := { dst := some 82, op := Go.Op.indexAddr 51 (Go.Operand.tmp 80) (Go.Operand.tmp 81), type := 0, pos := "law.go:172", after := #[{ on := 9, ground := Go.Ground.data }, { on := 10, ground := Go.Ground.data }, { on := 6, ground := Go.Ground.guard }], guard := some (6, false) }) (v := ?vz11) rfl (by kernel_rfl) (by kernel_rfl) (by kernel_rfl) (fun _ _ _ h => h) (Or.inl ⟨by rfl, ?yz11⟩) (by assumption) ?rz11
        case yz11 => ((intro w hSw; (try dsimp only at hSw); go_simp) <;> with_reducible rfl)
        try simp only [Act.put, List.setIfInBounds_toArray, List.set_cons_zero, List.set_cons_succ]
        refine wpAnyH_take (i := 12) (oi := { dst := some 83, op := Go.Op.load 28 (Go.Operand.tmp 82), type := 28, pos := "law.go:172", after := #[{ on := 11, ground := Go.Ground.data }, { on := 6, ground := Go.Ground.guard }], guard := some (6, false) }) (v := ?vz12) rfl (by kernel_rfl) (by kernel_rfl) (by kernel_rfl) (fun _ _ _ h => h) (Or.inl ⟨by rfl, ?yz12⟩) (by assumption) ?rz12
        case yz12 => ((intro w hSw; (try dsimp only at hSw); go_simp) <;> with_reducible rfl)
        try simp only [Act.put, List.setIfInBounds_toArray, List.set_cons_zero, List.set_cons_succ]
        refine wpAnyH_take (i := 13) (oi := { dst := some 84, op := Go.Op.convert 28 9 (Go.Operand.tmp 83), type := 9, pos := "law.go:172", after := #[{ on := 12, ground := Go.Ground.data }, { on := 6, ground := Go.Ground.guard }], guard := some (6, false) }) (v := ?vz13) rfl (by kernel_rfl) (by kernel_rfl) (by kernel_rfl) (fun _ _ _ h => h) (Or.inl ⟨by rfl, ?yz13⟩) (by assumption) ?rz13
        case yz13 => ((intro w hSw; (try dsimp only at hSw); go_simp) <;> with_reducible rfl)
        try simp only [Act.put, List.setIfInBounds_toArray, List.set_cons_zero, List.set_cons_succ]
        refine wpAnyH_take (i := 14) (oi := { dst := some 85, op := Go.Op.binOp Go.BinOp.neq 9 (Go.Operand.tmp 79) (Go.Operand.tmp 84) 9, type := 4, pos := "law.go:172", after := #[{ on := 8, ground := Go.Ground.data }, { on := 13, ground := Go.Ground.data }, { on := 6, ground := Go.Ground.guard }], guard := some (6, false) }) (v := ?vz14) rfl (by kernel_rfl) (by kernel_rfl) (by kernel_rfl) (fun _ _ _ h => h) (Or.inl ⟨by rfl, ?yz14⟩) (by assumption) ?rz14
        case yz14 => ((intro w hSw; (try dsimp only at hSw); go_simp) <;> with_reducible rfl)
        try simp only [Act.put, List.setIfInBounds_toArray, List.set_cons_zero, List.set_cons_succ]
        refine wpAnyH_take (i := 15) (oi := { dst := some 86, op := Go.Op.pick (Go.Operand.tmp 77) (Go.Operand.const (Go.Value.bool true)) (Go.Operand.tmp 85), type := 4, pos := "law.go:172", after := #[{ on := 6, ground := Go.Ground.data }, { on := 14, ground := Go.Ground.data }], guard := none }) (v := ?vz15) rfl (by kernel_rfl) (by kernel_rfl) (by kernel_rfl) (fun _ _ _ h => h) (Or.inl ⟨by rfl, ?yz15⟩) (by assumption) ?rz15
        case yz15 => ((intro w hSw; (try dsimp only at hSw); go_simp) <;> with_reducible rfl)
        try simp only [Act.put, List.setIfInBounds_toArray, List.set_cons_zero, List.set_cons_succ]
        refine wpAnyH_take (i := 16) (oi := { dst := some 87, op := Go.Op.move (Go.Operand.tmp 86), type := 4, pos := "law.go:172", after := #[{ on := 15, ground := Go.Ground.data }, { on := 6, ground := Go.Ground.chain }], guard := none }) (v := ?vz16) rfl (by kernel_rfl) (by kernel_rfl) (by kernel_rfl) (fun _ _ _ h => h) (Or.inl ⟨by rfl, ?yz16⟩) (by assumption) ?rz16
        case yz16 => ((intro w hSw; (try dsimp only at hSw); go_simp) <;> with_reducible rfl)
        try simp only [Act.put, List.setIfInBounds_toArray, List.set_cons_zero, List.set_cons_succ]
        refine wpAnyH_take (i := 17) (oi := { dst := some 88, op := Go.Op.move (Go.Operand.tmp 10), type := 24, pos := "law.go:172", after := #[{ on := 16, ground := Go.Ground.guard }], guard := some (16, false) }) (v := ?vz17) rfl (by kernel_rfl) (by kernel_rfl) (by kernel_rfl) (fun _ _ _ h => h) (Or.inl ⟨by rfl, ?yz17⟩) (by assumption) ?rz17
        case yz17 => ((intro w hSw; (try dsimp only at hSw); go_simp) <;> with_reducible rfl)
        try simp only [Act.put, List.setIfInBounds_toArray, List.set_cons_zero, List.set_cons_succ]
        refine wpAnyH_take (i := 18) (oi := { dst := some 89, op := Go.Op.move (Go.Operand.tmp 1), type := 3, pos := "law.go:172", after := #[{ on := 16, ground := Go.Ground.guard }], guard := some (16, false) }) (v := ?vz18) rfl (by kernel_rfl) (by kernel_rfl) (by kernel_rfl) (fun _ _ _ h => h) (Or.inl ⟨by rfl, ?yz18⟩) (by assumption) ?rz18
        case yz18 => ((intro w hSw; (try dsimp only at hSw); go_simp) <;> with_reducible rfl)
        try simp only [Act.put, List.setIfInBounds_toArray, List.set_cons_zero, List.set_cons_succ]
        refine wpAnyH_ready (rs := [19]) (by kernel_rfl) (by simp) ?_
        refine AllReadyH.cons (o := { dst := some 90, op := Go.Op.call { callee := Go.Callee.value (Go.Operand.func 20), args := #[Go.Operand.tmp 88, Go.Operand.tmp 89], argTypes := #[24, 3] }, type := 43, pos := "law.go:172", after := #[{ on := 17, ground := Go.Ground.data }, { on := 18, ground := Go.Ground.data }, { on := 16, ground := Go.Ground.chain }, { on := 16, ground := Go.Ground.guard }], guard := some (16, false) }) rfl (fun K hK => ?kz19) AllReadyH.nil
        have L6d := Aside0.mk (L6.out.below (below_drew (Below.refl _ _)))
        go_simp
        have hA := At_calls w6.drew L6d.out HK.out ch
        rw [HS.out.2.2] at hA
        refine hA.mono ?_
        clear hA
        rintro e w7 ⟨v7, rfl, hR, hb7⟩
        obtain ⟨A7, c7, rfl, -, -⟩ := Kd.R_reads hR
        have D7 : Aside0 (Below w6.heap.size w6 w7) := Aside0.mk (of_drew hb7)
        clear hR hb7
        refine hK.out _ _ ?_ (fun hHeld => ?_)
        · exact HSK.out _ D7.out
        clear hK K
        try simp only [Act.put, List.setIfInBounds_toArray, List.set_cons_zero, List.set_cons_succ]
        refine wpAnyH_take (i := 20) (oi := { dst := some 91, op := Go.Op.field 43 (Go.Operand.tmp 90) 2, type := 3, pos := "law.go:172", after := #[{ on := 19, ground := Go.Ground.data }, { on := 16, ground := Go.Ground.guard }], guard := some (16, false) }) (v := ?vz20) rfl (by kernel_rfl) (by kernel_rfl) (by kernel_rfl) (fun _ _ _ h => h) (Or.inl ⟨by rfl, ?yz20⟩) (by assumption) ?rz20
        case yz20 => ((intro w hSw; (try dsimp only at hSw); go_simp) <;> with_reducible rfl)
        try simp only [Act.put, List.setIfInBounds_toArray, List.set_cons_zero, List.set_cons_succ]
        refine wpAnyH_take (i := 21) (oi := { dst := some 92, op := Go.Op.binOp Go.BinOp.neq 3 (Go.Operand.tmp 91) (Go.Operand.const (Go.Value.int Go.IntKind.i64 0)) 3, type := 4, pos := "law.go:172", after := #[{ on := 20, ground := Go.Ground.data }, { on := 16, ground := Go.Ground.guard }], guard := some (16, false) }) (v := ?vz21) rfl (by kernel_rfl) (by kernel_rfl) (by kernel_rfl) (fun _ _ _ h => h) (Or.inl ⟨by rfl, ?yz21⟩) (by assumption) ?rz21
        case yz21 => ((intro w hSw; (try dsimp only at hSw); go_simp) <;> with_reducible rfl)
        try simp only [Act.put, List.setIfInBounds_toArray, List.set_cons_zero, List.set_cons_succ]
        refine wpAnyH_take (i := 22) (oi := { dst := some 93, op := Go.Op.pick (Go.Operand.tmp 87) (Go.Operand.const (Go.Value.bool true)) (Go.Operand.tmp 92), type := 4, pos := "law.go:172", after := #[{ on := 16, ground := Go.Ground.data }, { on := 21, ground := Go.Ground.data }], guard := none }) (v := ?vz22) rfl (by kernel_rfl) (by kernel_rfl) (by kernel_rfl) (fun _ _ _ h => h) (Or.inl ⟨by rfl, ?yz22⟩) (by assumption) ?rz22
        case yz22 => ((intro w hSw; (try dsimp only at hSw); go_simp) <;> with_reducible rfl)
        try simp only [Act.put, List.setIfInBounds_toArray, List.set_cons_zero, List.set_cons_succ]
        refine wpAnyH_take (i := 23) (oi := { dst := some 94, op := Go.Op.move (Go.Operand.tmp 93), type := 4, pos := "law.go:172", after := #[{ on := 22, ground := Go.Ground.data }, { on := 19, ground := Go.Ground.chain }], guard := none }) (v := ?vz23) rfl (by kernel_rfl) (by kernel_rfl) (by kernel_rfl) (fun _ _ _ h => h) (Or.inl ⟨by rfl, ?yz23⟩) (by assumption) ?rz23
        case yz23 => ((intro w hSw; (try dsimp only at hSw); go_simp) <;> with_reducible rfl)
        try simp only [Act.put, List.setIfInBounds_toArray, List.set_cons_zero, List.set_cons_succ]
        refine wpAnyH_take (i := 24) (oi := { dst := some 95, op := Go.Op.move (Go.Operand.tmp 10), type := 24, pos := "law.go:172", after := #[{ on := 23, ground := Go.Ground.guard }], guard := some (23, false) }) (v := ?vz24) rfl (by kernel_rfl) (by kernel_rfl) (by kernel_rfl) (fun _ _ _ h => h) (Or.inl ⟨by rfl, ?yz24⟩) (by assumption) ?rz24
        case yz24 => ((intro w hSw; (try dsimp only at hSw); go_simp) <;> with_reducible rfl)
        try simp only [Act.put, List.setIfInBounds_toArray, List.set_cons_zero, List.set_cons_succ]
        refine wpAnyH_take (i := 25) (oi := { dst := some 96, op := Go.Op.move (Go.Operand.tmp 1), type := 3, pos := "law.go:172", after := #[{ on := 23, ground := Go.Ground.guard }], guard := some (23, false) }) (v := ?vz25) rfl (by kernel_rfl) (by kernel_rfl) (by kernel_rfl) (fun _ _ _ h => h) (Or.inl ⟨by rfl, ?yz25⟩) (by assumption) ?rz25
        case yz25 => ((intro w hSw; (try dsimp only at hSw); go_simp) <;> with_reducible rfl)
        try simp only [Act.put, List.setIfInBounds_toArray, List.set_cons_zero, List.set_cons_succ]
        refine wpAnyH_take (i := 28) (oi := { dst := some 99, op := Go.Op.move (Go.Operand.tmp 2), type := 3, pos := "law.go:172", after := #[{ on := 23, ground := Go.Ground.guard }], guard := some (23, false) }) (v := ?vz28) rfl (by kernel_rfl) (by kernel_rfl) (by kernel_rfl) (fun _ _ _ h => h) (Or.inl ⟨by rfl, ?yz28⟩) (by assumption) ?rz28
        case yz28 => ((intro w hSw; (try dsimp only at hSw); go_simp) <;> with_reducible rfl)
        try simp only [Act.put, List.setIfInBounds_toArray, List.set_cons_zero, List.set_cons_succ]
        refine wpAnyH_take (i := 29) (oi := { dst := some 100, op := Go.Op.move (Go.Operand.tmp 11), type := 3, pos := "law.go:172", after := #[{ on := 23, ground := Go.Ground.guard }], guard := some (23, false) }) (v := ?vz29) rfl (by kernel_rfl) (by kernel_rfl) (by kernel_rfl) (fun _ _ _ h => h) (Or.inl ⟨by rfl, ?yz29⟩) (by assumption) ?rz29
        case yz29 => ((intro w hSw; (try dsimp only at hSw); go_simp) <;> with_reducible rfl)
        try simp only [Act.put, List.setIfInBounds_toArray, List.set_cons_zero, List.set_cons_succ]
        refine wpAnyH_take (i := 30) (oi := { dst := some 101, op := Go.Op.binOp Go.BinOp.add 3 (Go.Operand.tmp 99) (Go.Operand.tmp 100) 3, type := 3, pos := "law.go:172", after := #[{ on := 28, ground := Go.Ground.data }, { on := 29, ground := Go.Ground.data }, { on := 23, ground := Go.Ground.guard }], guard := some (23, false) }) (v := ?vz30) rfl (by kernel_rfl) (by kernel_rfl) (by kernel_rfl) (fun _ _ _ h => h) (Or.inl ⟨by rfl, ?yz30⟩) (by assumption) ?rz30
        case yz30 => ((intro w hSw; (try dsimp only at hSw); go_simp) <;> with_reducible rfl)
        try simp only [Act.put, List.setIfInBounds_toArray, List.set_cons_zero, List.set_cons_succ]
        refine wpAnyH_take (i := 31) (oi := { dst := some 102, op := Go.Op.binOp Go.BinOp.and 3 (Go.Operand.tmp 101) (Go.Operand.const (Go.Value.int Go.IntKind.i64 255)) 3, type := 3, pos := "law.go:172", after := #[{ on := 30, ground := Go.Ground.data }, { on := 23, ground := Go.Ground.guard }], guard := some (23, false) }) (v := ?vz31) rfl (by kernel_rfl) (by kernel_rfl) (by kernel_rfl) (fun _ _ _ h => h) (Or.inl ⟨by rfl, ?yz31⟩) (by assumption) ?rz31
        case yz31 => ((intro w hSw; (try dsimp only at hSw); go_simp) <;> with_reducible rfl)
        try simp only [Act.put, List.setIfInBounds_toArray, List.set_cons_zero, List.set_cons_succ]
        refine wpAnyH_ready (rs := [26]) (by kernel_rfl) (by simp) ?_
        refine AllReadyH.cons (o := { dst := some 97, op := Go.Op.call { callee := Go.Callee.value (Go.Operand.func 20), args := #[Go.Operand.tmp 95, Go.Operand.tmp 96], argTypes := #[24, 3] }, type := 43, pos := "law.go:172", after := #[{ on := 24, ground := Go.Ground.data }, { on := 25, ground := Go.Ground.data }, { on := 23, ground := Go.Ground.chain }, { on := 23, ground := Go.Ground.guard }], guard := some (23, false) }) rfl (fun K hK => ?kz26) AllReadyH.nil
        have L6e := Aside0.mk (L6.out.below D7.out)
        go_simp
        have hA := At_calls w7 L6e.out HK.out ch
        rw [HS.out.2.2] at hA
        refine hA.mono ?_
        clear hA
        rintro e w8 ⟨v8, rfl, hR, hb8⟩
        obtain ⟨A8, c8, rfl, -, -⟩ := Kd.R_reads hR
        have D8 : Aside0 (Below w6.heap.size w6 w8) := Aside0.mk (below_thenB D7.out hb8 D7.out.size)
        clear hR hb8
        refine hK.out _ _ ?_ (fun hHeld => ?_)
        · exact HSK.out _ D8.out
        clear hK K
        try simp only [Act.put, List.setIfInBounds_toArray, List.set_cons_zero, List.set_cons_succ]
        refine wpAnyH_take (i := 27) (oi := { dst := some 98, op := Go.Op.field 43 (Go.Operand.tmp 97) 1, type := 3, pos := "law.go:172", after := #[{ on := 26, ground := Go.Ground.data }, { on := 23, ground := Go.Ground.guard }], guard := some (23, false) }) (v := ?vz27) rfl (by kernel_rfl) (by kernel_rfl) (by kernel_rfl) (fun _ _ _ h => h) (Or.inl ⟨by rfl, ?yz27⟩) (by assumption) ?rz27
        case yz27 => ((intro w hSw; (try dsimp only at hSw); go_simp) <;> with_reducible rfl)
        try simp only [Act.put, List.setIfInBounds_toArray, List.set_cons_zero, List.set_cons_succ]
        refine wpAnyH_take (i := 32) (oi := { dst := some 103, op := Go.Op.binOp Go.BinOp.neq 3 (Go.Operand.tmp 98) (Go.Operand.tmp 102) 3, type := 4, pos := "law.go:172", after := #[{ on := 27, ground := Go.Ground.data }, { on := 31, ground := Go.Ground.data }, { on := 23, ground := Go.Ground.guard }], guard := some (23, false) }) (v := ?vz32) rfl (by kernel_rfl) (by kernel_rfl) (by kernel_rfl) (fun _ _ _ h => h) (Or.inl ⟨by rfl, ?yz32⟩) (by assumption) ?rz32
        case yz32 => ((intro w hSw; (try dsimp only at hSw); go_simp) <;> with_reducible rfl)
        try simp only [Act.put, List.setIfInBounds_toArray, List.set_cons_zero, List.set_cons_succ]
        refine wpAnyH_take (i := 33) (oi := { dst := some 104, op := Go.Op.pick (Go.Operand.tmp 94) (Go.Operand.const (Go.Value.bool true)) (Go.Operand.tmp 103), type := 4, pos := "law.go:172", after := #[{ on := 23, ground := Go.Ground.data }, { on := 32, ground := Go.Ground.data }], guard := none }) (v := ?vz33) rfl (by kernel_rfl) (by kernel_rfl) (by kernel_rfl) (fun _ _ _ h => h) (Or.inl ⟨by rfl, ?yz33⟩) (by assumption) ?rz33
        case yz33 => ((intro w hSw; (try dsimp only at hSw); go_simp) <;> with_reducible rfl)
        try simp only [Act.put, List.setIfInBounds_toArray, List.set_cons_zero, List.set_cons_succ]
        refine wpAnyH_done (by kernel_rfl) ?_ _
        go_wp2_with fail
        go_meet
        case rel => exact ⟨by rw [i64_w, hq]; simp, D8⟩
      case rest =>
        obtain ⟨rfl, B8⟩ := hcut
        obtain ⟨w8, rfl⟩ : ∃ x : World, x = wc := ⟨_, rfl⟩
        have B9 := Aside0.mk (below_thenB B6.out B8.out B6.out.size)
        have L9 := Aside0.mk (L6.out.below B8.out)
        have hw64 := HW64.out
        clear hq
        go_wp2_with fail
        go_roundw
        case rel => exact ⟨k + 1, HN.out, rfl, ⟨S2, L9, HJ⟩, B9⟩
        case measure => simpa [intOf] using HM.out
    · have dk : decide ((k : Int) < (l.length : Int)) = false := decide_eq_false hlt
      go_wp2_with fail
      go_ret
      exact ⟨rfl, B3.out⟩
theorem last_walk (f ch seq : Int) (l : List (List Int)) (A : Option Addr) (c : Nat) (w : World) (_ : (Lit.int .i64 f).wf = true) (_ : (Lit.int .i64 ch).wf = true) (_ : (Lit.int .i64 seq).wf = true) (hC : Kd.C kRows w A l.length l) (hl : l.length ≤ c) (hg : Gerr w) : Calls Tryd.prog 8 #[.int .i64 f, .int .i64 ch, .int .i64 seq, .slice A l.length c] w fun e w' => e = .returned (.bool true) ∧ Below w.heap.size w w' :=
  last_calls f ch seq A c l w hC hg
end Go.Proofs.YtcikcehphpbfhaaDoor.PE

