/- link: LinkApart's walk. -/
import Derived.Test.YtcikcehphpbfhaaDoorHNone
import Derived.Test.YtcikcehphpbfhaaDoorHOpenL
namespace Go.Proofs.YtcikcehphpbfhaaDoor.PE
open Go.RowKit Go.Extern.Stop Go.Stop Go.Extern Go.Proofs.YtcikcehphpbfhaaDoorW.PrintWords Go.Proofs.YtcikcehphpbfhaaDoorW.PrintLast Go.Proofs.YtcikcehphpbfhaaDoorW.PrintMore
set_option linter.unusedVariables false
set_option linter.unusedSimpArgs false
theorem TakeO {g : Nat} {F now : Int} {ok : Nat → Prop} {st : Nat → Ch} (w : World) (h : LK w g F now ok st) (hbig : ∀ k, w.heap.size ≤ k → ok k) (hn : now ≤ 1000000) (ch sq : Int) (A : Option Addr) (n cap : Nat) (xs : List Int) (hC : Kd.C (Kd.int .u8) w A n xs) (hl : n ≤ 1000000) :
    Calls Tryd.prog 15 #[.pointer (some ⟨g, 0, none⟩), .agg #[.int .i64 ch, .int .i64 sq, .slice A n cap]] w fun e w' => ∃ v, e = .returned v ∧ ErrV w' (takeE F now st ch sq n) v ∧ LK w' g F now ok (takeS F now st ch sq xs) ∧ Only g w w' :=
  (Take_calls w h hn ch sq A n cap xs hC hl).mono (fun _ _ ⟨v, h1, h2, h3, h4⟩ => ⟨v, h1, h2, h3.mono (fun k hk => hk.elim id (hbig k)) h.hok, h4⟩)
theorem ErrV.only {W W' : World} {g : Nat} (hO : Only g W W') (hb : ∃ cs, W.heap[g]? = some (.cells cs 57 (0, 0))) {c : Int} {v : Value} (e : ErrV W c v) : ErrV W' c v := e.imp id (fun e => ⟨e.1, e.2.only hO hb⟩)
abbrev Act1 : Type := Bool × Int × Int × List Int
def actAt (l : List Act1) (i : Nat) : Act1 := l.getD i (false, 0, 0, [])
theorem acts_at {w : World} {A : Option Addr} {n : Nat} {l : List Act1} (h : Kd.C kAct w A n l) (i : Nat) (h1 : i < n) :
    ∃ ad B c, A = some ad ∧ w.cell? (ad.add (i * 4)) = some (.bool (actAt l i).1) ∧ w.cell? ⟨(ad.add (i * 4)).block, (ad.add (i * 4)).off + 1, none⟩ = some (.int .i64 (actAt l i).2.1) ∧ w.cell? ⟨(ad.add (i * 4)).block, (ad.add (i * 4)).off + 2, none⟩ = some (.int .i64 (actAt l i).2.2.1) ∧ w.cell? ⟨(ad.add (i * 4)).block, (ad.add (i * 4)).off + 3, none⟩ = some (.slice B (actAt l i).2.2.2.length c) ∧ (actAt l i).2.2.2.length ≤ c ∧ Kd.C (Kd.int .u8) w B (actAt l i).2.2.2.length (actAt l i).2.2.2 := by
  obtain ⟨ad, cs, e, _, hK, hc⟩ := Kd.C_get h (false, 0, 0, []) (i : Int) (by omega) (by omega)
  have e0 : ((i : Int).toNat) = i := by omega
  rw [e0] at hK hc
  have hK' : kAct.K w (actAt l i) cs := hK
  obtain ⟨_, _, rfl, rfl, ⟨_, _, rfl, rfl, ⟨_, _, rfl, rfl, ⟨B, c, rfl, hl, hC⟩⟩⟩⟩ := hK'
  have hc' : ∀ j u, ([Value.bool (actAt l i).1] ++ ([Value.int .i64 (actAt l i).2.1] ++ ([Value.int .i64 (actAt l i).2.2.1] ++ [Value.slice B (actAt l i).2.2.2.length c])))[j]? = some u → w.cell? (ad.add (i * 4 + j)) = some u := hc
  exact ⟨ad, B, c, e, hc' 0 _ rfl, by rw [← add_field _ _ 1 (by omega)]; exact hc' 1 _ rfl, by rw [← add_field _ _ 2 (by omega)]; exact hc' 2 _ rfl, by rw [← add_field _ _ 3 (by omega)]; exact hc' 3 _ rfl, hl, hC⟩
/-- The channel that is looked at says the same in both. -/
def Agree (ch : Int) (S T : Nat → Ch) : Prop := (0 ≤ ch ∧ ch ≤ 15) → S ch.toNat = T ch.toNat
theorem agree_take (F now ch c sq : Int) (S T : Nat → Ch) (xs : List Int) (h : Agree ch S T) :
    (c = ch → takeE F now S c sq xs.length = takeE F now T c sq xs.length ∧ Agree ch (takeS F now S c sq xs) (takeS F now T c sq xs)) ∧ (c ≠ ch → Agree ch (takeS F now S c sq xs) T) := by
  constructor
  · rintro rfl
    have hE : takeE F now S c sq xs.length = takeE F now T c sq xs.length := by
      unfold takeE
      by_cases ha : argF c sq xs.length
      · rw [if_pos ha, if_pos ha]
      · rw [if_neg ha, if_neg ha, h (by unfold argF at ha; omega)]
    refine ⟨hE, fun hc => ?_⟩
    unfold takeS
    rw [hE]
    split
    · rw [upd_same, upd_same]
    · exact h hc
  · intro hne hc
    unfold takeS
    split
    · rename_i hz
      have ha : ¬ argF c sq xs.length := fun ha => by rw [takeE, if_pos ha] at hz; exact absurd hz (by decide)
      rw [upd_other _ _ (by unfold argF at ha; omega)]
      exact h hc
    · exact h hc
theorem agree_at (F now ch : Int) (S T : Nat → Ch) (h : Agree ch S T) : atF F now S ch = atF F now T ch := by
  by_cases hc : 0 ≤ ch ∧ ch ≤ 15
  · have e := h hc
    unfold atF dataF isF
    rw [e]
  · unfold atF
    rw [if_neg (fun x => hc x.1), if_neg (fun x => hc x.1)]
set_option maxHeartbeats 16000000 in
set_option maxRecDepth 100000 in
theorem apart_calls (f : Int) (A : Option Addr) (c : Nat) (l : List Act1) (ch : Int) (w : World) (hC : Kd.C kAct w A l.length l) (hg : Gerr w) : Calls Tryd.prog 6 #[.int .i64 f, .slice A l.length c, .int .i64 ch] w fun e w' => e = .returned (.bool true) ∧ Below w.heap.size w w' := by
  have HG := Aside0.mk hg
  have HC := Aside0.mk hC
  clear hg hC
  by_cases h2 : 200 < (l.length : Int)
  · have dh2 : decide (200 < (l.length : Int)) = true := decide_eq_true h2
    go_enter Tryd.func6, Tryd.ntmps6
    go_wp2_with fail
    refine (small_calls w HG.out).mono ?_
    rintro e w1 ⟨rfl, hb⟩
    have B1 := Aside0.mk hb
    clear hb
    go_wp2_with fail
    refine (New_calls f w1).mono ?_
    rintro e w2 ⟨rfl, hL, hb⟩
    have B2 := Aside0.mk (below_thenB B1.out hb B1.out.size)
    have L2 := Aside0.mk hL
    clear hL hb
    go_wp2_with fail
    refine (New_calls f w2).mono ?_
    rintro e w3 ⟨rfl, hL, hb⟩
    have B3 := Aside0.mk (below_thenB B2.out hb B2.out.size)
    have X3 := Aside0.mk (L2.out.below hb)
    have Y3 := Aside0.mk hL
    have hxy : w1.heap.size < w2.heap.size := L2.out.lt
    clear hL hb L2
    generalize hF : max 1 (min f 6000) = F at X3 Y3
    have hg1 : w.heap.size ≤ w1.heap.size := B1.out.size
    have hg2 : w.heap.size ≤ w2.heap.size := B2.out.size
    go_wp2_with fail
    go_ret
    exact ⟨rfl, B3.out⟩
  have dh2 : decide (200 < (l.length : Int)) = false := decide_eq_false h2
  go_enter Tryd.func6, Tryd.ntmps6
  go_wp2_with fail
  refine (small_calls w HG.out).mono ?_
  rintro e w1 ⟨rfl, hb⟩
  have B1 := Aside0.mk hb
  clear hb
  go_wp2_with fail
  refine (New_calls f w1).mono ?_
  rintro e w2 ⟨rfl, hL, hb⟩
  have B2 := Aside0.mk (below_thenB B1.out hb B1.out.size)
  have L2 := Aside0.mk hL
  clear hL hb
  go_wp2_with fail
  refine (New_calls f w2).mono ?_
  rintro e w3 ⟨rfl, hL, hb⟩
  have B3 := Aside0.mk (below_thenB B2.out hb B2.out.size)
  have X3 := Aside0.mk (L2.out.below hb)
  have Y3 := Aside0.mk hL
  have hxy : w1.heap.size < w2.heap.size := L2.out.lt
  clear hL hb L2
  generalize hF : max 1 (min f 6000) = F at X3 Y3
  have hg1 : w.heap.size ≤ w1.heap.size := B1.out.size
  have hg2 : w.heap.size ≤ w2.heap.size := B2.out.size
  go_wp2_with fail
  have hl2 : (l.length : Int) ≤ 200 := by omega
  obtain ⟨ok, hok⟩ : ∃ ok : Nat → Prop, ok = fun k => k ≠ w1.heap.size ∧ k ≠ w2.heap.size := ⟨_, rfl⟩
  have X4 : Aside0 (LK w3 w1.heap.size F 0 ok (fun _ => Ch.zero)) := ⟨X3.out.mono (fun _ h => h.elim) (by rw [hok]; exact fun k hk => hk.1)⟩
  have Y4 : Aside0 (LK w3 w2.heap.size F 0 ok (fun _ => Ch.zero)) := ⟨Y3.out.mono (fun _ h => h.elim) (by rw [hok]; exact fun k hk => hk.2)⟩
  have OKX := Aside0.mk (show ∀ k, ok k → k ≠ w1.heap.size by rw [hok]; exact fun k hk => hk.1)
  have OKY := Aside0.mk (show ∀ k, ok k → k ≠ w2.heap.size by rw [hok]; exact fun k hk => hk.2)
  have OKB := Aside0.mk (show ∀ W : World, w2.heap.size < W.heap.size → ∀ k, W.heap.size ≤ k → ok k by rw [hok]; exact fun W h k hk => ⟨by omega, by omega⟩)
  clear hok X3 Y3
  have NXY : w1.heap.size ≠ w2.heap.size := by omega
  have HNX := Aside0.mk NXY
  clear NXY hxy
  go_loopw [10] (fun i W => ∃ k : Nat, k ≤ l.length ∧ i = .int .i64 k ∧ (∃ S T, ∃ now : Nat, Aside0 (now ≤ k) ∧ Aside0 (LK W w1.heap.size F now ok S) ∧ Aside0 (LK W w2.heap.size F now ok T) ∧ Aside0 (Agree ch S T)) ∧ Aside0 (Below w.heap.size w W)) (fun i _ => l.length - (intOf i).toNat)
  case atStart => exact ⟨0, by omega, rfl, ⟨_, _, 0, ⟨Nat.le_refl _⟩, X4, Y4, ⟨fun _ => rfl⟩⟩, B3⟩
  case round =>
    obtain ⟨k, hk, rfl, ⟨S, T, now, HNOW, X5, Y5, AG⟩, B5⟩ := hrel
    have HNW := Aside0.mk (show (now : Int) + 1 ≤ 1000000 by have := HNOW.out; omega)
    by_cases hlt : (k : Int) < (l.length : Int)
    · have dk : decide ((k : Int) < (l.length : Int)) = true := decide_eq_true hlt
      have hi : 0 ≤ (k : Int) ∧ (k : Int) < (l.length : Int) := by omega
      obtain ⟨ad, B, cc, hA, u0, u1, u2, u3, hxc, hCx⟩ := acts_at HC.out k (by omega)
      subst hA
      generalize actAt l k = a at u0 u1 u2 u3 hxc hCx
      obtain ⟨tk, chn, sq, xs⟩ := a
      dsimp only at u0 u1 u2 u3 hxc hCx
      have HCX := Aside0.mk hCx
      have U := Aside0.mk (And.intro u0 (And.intro u1 (And.intro u2 u3)))
      clear hCx u0 u1 u2 u3
      have HM := Aside0.mk (show l.length - (k + 1) < l.length - k by omega)
      have HN := Aside0.mk (show k + 1 ≤ l.length by omega)
      have HW64 := Aside0.mk (show wrap64 ((k : Int) + 1) = k + 1 by unfold wrap64; omega)
      have HNO := Aside0.mk (show now ≤ k + 1 by have := HNOW.out; omega)
      have HNP := Aside0.mk (show now + 1 ≤ k + 1 by have := HNOW.out; omega)
      have u0 := bcellA B5 U.out.1
      have u3 := bcellA B5 U.out.2.2.2
      by_cases hbig : 100 < (xs.length : Int)
      · have d16 : decide (100 < (xs.length : Int)) = true := decide_eq_true hbig
        go_wp2_with fail
        go_ret
        exact ⟨rfl, B5.out⟩
      have d16 : decide (100 < (xs.length : Int)) = false := decide_eq_false hbig
      have HXL := Aside0.mk (show xs.length ≤ 1000000 by omega)
      have u1 := bcellA B5 U.out.2.1
      have u2 := bcellA B5 U.out.2.2.1
      cases tk with
      | true =>
        go_wp2_with fail
        clear u0 u1 u2 u3
        refine (Tick_calls wr X5.out (by have := HNW.out; omega)).mono ?_
        rintro e w6 ⟨rfl, hL, hO⟩
        have X6 : Aside0 (LK w6 w1.heap.size F (now + 1 : Nat) ok S) := Aside0.mk hL
        have Y6 := Aside0.mk (Y5.out.only hO (Ne.symm HNX.out) OKX.out)
        have B6 := bonly B5 hO hg1
        clear hL hO X5 Y5
        go_wp2_with fail
        refine (Tick_calls w6 Y6.out (by have := HNW.out; omega)).mono ?_
        rintro e w7 ⟨rfl, hL, hO⟩
        have Y7 : Aside0 (LK w7 w2.heap.size F (now + 1 : Nat) ok T) := Aside0.mk hL
        have X7 := Aside0.mk (X6.out.only hO HNX.out OKY.out)
        have B7 := bonly B6 hO hg2
        clear hL hO X6 Y6
        have hw64 := HW64.out
        go_wp2_with fail
        go_roundw
        case rel => exact ⟨k + 1, HN.out, rfl, ⟨S, T, now + 1, HNP, X7, Y7, AG⟩, B7⟩
        case measure => simpa [intOf] using HM.out
      | false =>
        have HAT := Aside0.mk (agree_take F now ch chn sq S T xs AG.out)
        go_wp2_with fail
        clear u0 u1 u2 u3
        refine (TakeO wr X5.out (OKB.out wr Y5.out.lt) (by have := HNW.out; omega) chn sq B xs.length cc xs (Kd.C_below HCX.out B5.out) HXL.out).mono ?_
        rintro e w6 ⟨v6, rfl, hE, hL, hO⟩
        have X6 := Aside0.mk hL
        have Y6 := Aside0.mk (Y5.out.only hO (Ne.symm HNX.out) OKX.out)
        have B6 := bonly B5 hO hg1
        have E6 := Aside0.mk hE
        clear hL hO hE X5 Y5
        have u1 := bcellA B6 U.out.2.1
        have u2 := bcellA B6 U.out.2.2.1
        have u3 := bcellA B6 U.out.2.2.2
        by_cases hch : chn = ch
        · have dch : (chn == ch) = true := beq_iff_eq.2 hch
          have HT := Aside0.mk (HAT.out.1 hch)
          clear hch
          go_wp2_with fail
          clear u1 u2 u3
          refine (TakeO w6 Y6.out (OKB.out w6 Y6.out.lt) (by have := HNW.out; omega) chn sq B xs.length cc xs (Kd.C_below HCX.out B6.out) HXL.out).mono ?_
          rintro e w7 ⟨v7, rfl, hE, hL, hO⟩
          have Y7 := Aside0.mk hL
          have X7 := Aside0.mk (X6.out.only hO HNX.out OKY.out)
          have B7 := bonly B6 hO hg2
          have E7 := Aside0.mk hE
          have E6' := Aside0.mk (E6.out.only hO Y6.out.blk)
          clear hL hO hE X6 Y6 E6
          go_wp2_with fail
          refine (Code_calls v7 _ w7 (HG.out.below B7) E7.out).mono ?_
          rintro e w8 ⟨rfl, hb⟩
          have B8 := Aside0.mk (below_thenB B7.out hb B7.out.size)
          have X8 := Aside0.mk (X7.out.below hb)
          have Y8 := Aside0.mk (Y7.out.below hb)
          have E8 := Aside0.mk (E6'.out.below ⟨hb⟩)
          clear hb X7 Y7 E6' E7
          go_wp2_with fail
          refine (Code_calls v6 _ w8 (HG.out.below B8) E8.out).mono ?_
          rintro e w9 ⟨rfl, hb⟩
          have B9 := Aside0.mk (below_thenB B8.out hb B8.out.size)
          have X9 := Aside0.mk (X8.out.below hb)
          have Y9 := Aside0.mk (Y8.out.below hb)
          clear hb X8 Y8 E8
          have heq : (takeE F now T chn sq xs.length != takeE F now S chn sq xs.length) = false := by rw [HT.out.1]; simp
          have AG2 := Aside0.mk HT.out.2
          have hw64 := HW64.out
          generalize takeS F now S chn sq xs = S' at X9 AG2
          generalize takeS F now T chn sq xs = T' at Y9 AG2
          go_wp2_with fail
          go_roundw
          case rel => exact ⟨k + 1, HN.out, rfl, ⟨S', T', now, HNO, X9, Y9, AG2⟩, B9⟩
          case measure => simpa [intOf] using HM.out
        · have dch : (chn == ch) = false := beq_eq_false_iff_ne.2 hch
          have AG2 := Aside0.mk (HAT.out.2 hch)
          have hw64 := HW64.out
          clear hch
          generalize takeS F now S chn sq xs = S' at X6 AG2
          go_wp2_with fail
          go_roundw
          case rel => exact ⟨k + 1, HN.out, rfl, ⟨S', T, now, HNO, X6, Y6, AG2⟩, B6⟩
          case measure => simpa [intOf] using HM.out
    · have dk : decide ((k : Int) < (l.length : Int)) = false := decide_eq_false hlt
      have HA := Aside0.mk (agree_at F now ch S T AG.out)
      go_wp2_with fail
      refine (At_calls wr X5.out (by have := HNW.out; omega) ch).mono ?_
      rintro e w6 ⟨v6, rfl, hR, hb⟩
      obtain ⟨A6, c6, rfl, hc6, hC6⟩ := Kd.R_reads hR
      have B6 := Aside0.mk (below_thenB B5.out hb B5.out.size)
      have Y6 := Aside0.mk (Y5.out.below hb)
      have HC6 := Aside0.mk hC6
      have HL6 := Aside0.mk hc6
      clear hR hb hC6 hc6
      go_wp2_with fail
      refine (At_calls w6 Y6.out (by have := HNW.out; omega) ch).mono ?_
      rintro e w7 ⟨v7, rfl, hR, hb⟩
      obtain ⟨A7, c7, rfl, hc7, hC7⟩ := Kd.R_reads hR
      have B7 := Aside0.mk (below_thenB B6.out hb B6.out.size)
      have HC7 := Aside0.mk hC7
      have HL7 := Aside0.mk hc7
      have HC6' := Aside0.mk (Kd.C_below HC6.out hb)
      clear hR hb hC7 hc7 HC6
      go_wp2_with fail
      refine (Same_calls (atF F now S ch) (atF F now T ch) A6 A7 c6 c7 w7 HC6'.out HL6.out HC7.out HL7.out HA.out).mono ?_
      rintro e w8 ⟨rfl, hb⟩
      have B8 := Aside0.mk (below_thenB B7.out hb B7.out.size)
      clear hb
      go_wp2_with fail
      go_ret
      exact ⟨rfl, B8.out⟩
theorem apart_walk (f : Int) (l : List Act1) (A : Option Addr) (c : Nat) (ch : Int) (w : World) (_ : (Lit.int .i64 f).wf = true) (hC : Kd.C kAct w A l.length l) (hl : l.length ≤ c) (_ : (Lit.int .i64 ch).wf = true) (hg : Gerr w) : Calls Tryd.prog 6 #[.int .i64 f, .slice A l.length c, .int .i64 ch] w fun e w' => e = .returned (.bool true) ∧ Below w.heap.size w w' :=
  apart_calls f A c l ch w hC hg
end Go.Proofs.YtcikcehphpbfhaaDoor.PE

