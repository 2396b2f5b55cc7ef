/- link: the small case of the statements. -/
import Derived.Test.YtcikcehphpbfhaaDoorHLink5
namespace Go.Proofs.YtcikcehphpbfhaaDoor.PE
open Go.RowKit Go.Extern.Stop Go.Stop Go.Extern Go.Proofs.YtcikcehphpbfhaaDoorW.PrintWords Go.Proofs.YtcikcehphpbfhaaDoorW.PrintLast Go.Proofs.YtcikcehphpbfhaaDoorW.PrintMore
set_option linter.unusedVariables false
set_option linter.unusedSimpArgs false
theorem C_one (w : World) (x : Int) : Kd.C (Kd.int .u8) (w.alloc (.cells #[.int .u8 x] 5)) (some ⟨w.heap.size, 0, none⟩) 1 [x] := by
  refine ⟨rfl, by decide, fun _ => ⟨⟨w.heap.size, 0, none⟩, rfl, fun j p hj => ?_⟩⟩
  cases j with
  | succ j => simp at hj
  | zero =>
    have hp : x = p := by simpa using hj
    subst hp
    refine ⟨[.int .u8 x], rfl, rfl, fun i u hu => ?_⟩
    cases i with
    | succ i => simp at hu
    | zero =>
      have hu : Value.int .u8 x = u := by simpa using hu
      subst hu
      exact cell_new w #[.int .u8 x] 5 0
theorem heap_only {g k : Nat} {w w' : World} {o : Obj} (hO : Only g w w') (hk : k ≠ g) (h : w.heap[k]? = some o) : w'.heap[k]? = some o := (hO.block k (heap_lt h) hk).trans h
theorem ErrP.only {W W' : World} {g : Nat} (hO : Only g W W') (hb : ∃ cs, W.heap[g]? = some (.cells cs 57 (0, 0))) {c : Int} : ∀ {p : List ByteArray} {v : Value}, ErrP W c p v → ErrP W' c p v
  | [], _, hv => hv
  | _ :: _, _, ⟨k, v', e, hg, hv⟩ => ⟨k, v', e, heap_only hO (fun hk => by
      obtain ⟨cs, hb⟩ := hb
      rw [hk] at hg; rw [hb] at hg; injection hg with hg; injection hg with _ hg; exact absurd hg (by decide)) hg, ErrP.only hO hb hv⟩
theorem field43_0 (w : World) (b : Bool) (s a : Int) (v : Value) : (Instr.field 43 (.agg #[.bool b, .int .i64 s, .int .i64 a, v]) 0).run Tryd.prog w = .ok (.bool b) w := by kernel_rfl
theorem field43_1 (w : World) (b : Bool) (s a : Int) (v : Value) : (Instr.field 43 (.agg #[.bool b, .int .i64 s, .int .i64 a, v]) 1).run Tryd.prog w = .ok (.int .i64 s) w := by kernel_rfl
theorem field43_2 (w : World) (b : Bool) (s a : Int) (v : Value) : (Instr.field 43 (.agg #[.bool b, .int .i64 s, .int .i64 a, v]) 2).run Tryd.prog w = .ok (.int .i64 a) w := by kernel_rfl
theorem R_only {d : Kd Int} {e g base : Nat} {w w' : World} {ok : Nat → Prop} {v : Value} {xs : List Int} (h : Kd.R d e w base ok v xs) (hO : Only g w w') (hne : ∀ k, ok k → k ≠ g) : Kd.R d e w' base ok v xs :=
  Kd.R_step h (fun k ho hl => hO.block k hl (hne k ho))
theorem R_from {d : Kd Int} {e base : Nat} {w : World} {v : Value} {xs : List Int} (h : Kd.R d e w base (fun _ => True) v xs) : Kd.R d e w base (fun k => base ≤ k) v xs :=
  Kd.R_mono (Kd.R_bound h) (fun _ hk => hk.2.1)
theorem ErrV.nil {W : World} {v : Value} (h : ErrV W 0 v) : v = .nilIface := by
  rcases h with ⟨_, h⟩ | ⟨h, _⟩
  · exact h
  · exact absurd rfl h
theorem ErrV.err {W : World} {c : Int} {v : Value} (h : ErrV W c v) (hc : c ≠ 0) : ErrP W c [sLink] v := by
  rcases h with ⟨h, _⟩ | ⟨_, h⟩
  · exact absurd h hc
  · exact h
/-- The channels, whatever block of theirs lies where. -/
abbrev LN (W : World) (g : Nat) (F now : Int) (st : Nat → Ch) : Prop := LK W g F now (fun k => k ≠ g) st
theorem LK.N {W : World} {g : Nat} {F now : Int} {ok : Nat → Prop} {st : Nat → Ch} (h : LK W g F now ok st) : LN W g F now st := h.mono h.hok (fun _ hk => hk)
theorem NewN (n : Int) (w : World) :
    Calls Tryd.prog 10 #[.int .i64 n] w fun e w' => e = .returned (.pointer (some ⟨w.heap.size, 0, none⟩)) ∧ LN w' w.heap.size (max 1 (min n 6000)) 0 (fun _ => Ch.zero) ∧ Below w.heap.size w w' :=
  (New_calls n w).mono (fun _ _ h => ⟨h.1, h.2.1.N, h.2.2⟩)
theorem TakeN {g : Nat} {F now : Int} {st : Nat → Ch} (w : World) (h : LN w g F now st) (hn : now ≤ 1000000) (ch sq : Int) (A : Option Addr) (n cap : Nat) (xs : List Int) (hC : Kd.C (Kd.int .u8) w A n xs) (hl : n ≤ 1000000) :
    Calls Tryd.prog 15 #[.pointer (some ⟨g, 0, none⟩), .agg #[.int .i64 ch, .int .i64 sq, .slice A n cap]] w fun e w' => ∃ v, e = .returned v ∧ ErrV w' (takeE F now st ch sq n) v ∧ LN w' g F now (takeS F now st ch sq xs) ∧ Only g w w' :=
  (Take_calls w h hn ch sq A n cap xs hC hl).mono (fun _ _ ⟨v, h1, h2, h3, h4⟩ => ⟨v, h1, h2, h3.N, h4⟩)
def sm0 : Nat → Ch := fun _ => Ch.zero
def sm1 : Nat → Ch := upd sm0 3 ⟨true, 5, 0, [9]⟩
def sm2 : Nat → Ch := upd sm1 3 ⟨true, 5, 3, []⟩
set_option maxHeartbeats 16000000 in
set_option maxRecDepth 100000 in
theorem small_calls (w : World) (hg : Gerr w) : Calls Tryd.prog 9 #[] w fun e w' => e = .returned (.bool true) ∧ Below w.heap.size w w' := by
  have HG := Aside0.mk hg
  clear hg
  go_enter Tryd.func9, Tryd.ntmps9
  go_wp2_with fail
  refine (NewN 2 _).mono ?_
  rintro e w1 ⟨rfl, hL, hb⟩
  have L1 : Aside0 (LN w1 w.heap.size 2 0 sm0) := ⟨hL⟩
  have B1 := Aside0.mk hb
  clear hL hb
  go_wp2_with fail
  have B2 : Aside0 (Below w.heap.size w (w1.alloc (.cells #[.int .u8 9] 5))) := ⟨below_alloc B1.out _⟩
  have L2 := Aside0.mk (L1.out.below (below_alloc (Below.refl _ _) (.cells #[.int .u8 9] 5)))
  refine (TakeN _ L2.out (by decide) 3 5 _ 1 _ [9] (C_one w1 9) (by decide)).mono ?_
  rintro e w3 ⟨v3, rfl, hE, hL, hO⟩
  have B3 := bonly B2 hO (Nat.le_refl _)
  have L3 : Aside0 (LN w3 w.heap.size 2 0 sm1) := ⟨hL⟩
  have := hE.nil; subst this
  clear hE hL hO L2 L1
  go_wp2_with fail
  refine (TakeN w3 L3.out (by decide) 3 5 _ 0 0 [] (Kd.C_nil _ _) (by decide)).mono ?_
  rintro e w4 ⟨v4, rfl, hE, hL, hO⟩
  have B4 := bonly B3 hO (Nat.le_refl _)
  have L4 : Aside0 (LN w4 w.heap.size 2 0 sm1) := ⟨hL⟩
  have E4 := Aside0.mk (hE.err (by decide))
  clear hE hL hO L3
  obtain ⟨ty4, x4, rfl⟩ := E4.out.iface
  go_wp2_with fail
  refine (Tick_calls w4 L4.out (by decide)).mono ?_
  rintro e w5 ⟨rfl, hL, hO⟩
  have B5 := bonly B4 hO (Nat.le_refl _)
  have L5 : Aside0 (LN w5 w.heap.size 2 1 sm1) := ⟨hL⟩
  have E5 := Aside0.mk (E4.out.only hO L4.out.blk)
  clear hL hO
  go_wp2_with fail
  refine (Tick_calls w5 L5.out (by decide)).mono ?_
  rintro e w6 ⟨rfl, hL, hO⟩
  have B6 := bonly B5 hO (Nat.le_refl _)
  have L6 : Aside0 (LN w6 w.heap.size 2 2 sm1) := ⟨hL⟩
  have E6 := Aside0.mk (E5.out.only hO L5.out.blk)
  clear E4 E5 hL hO
  go_wp2_with fail
  have hf : isF 2 2 sm1 3 = true := by rfl
  have hA := Fresh_calls w6 L6.out (by decide) 3
  rw [hf] at hA
  refine hA.mono ?_
  clear hA hf
  rintro e w7 ⟨v7, rfl, hR, hb⟩
  have hlt6 := L6.out.lt
  have L7 := Aside0.mk (L6.out.below hb)
  have E7 := Aside0.mk (E6.out.below ⟨hb⟩)
  have B7 := Aside0.mk (below_thenB B6.out hb B6.out.size)
  have R7 : Aside0 (Kd.R (Kd.int .u8) 5 w7 w6.heap.size (fun k => w6.heap.size ≤ k) v7 [9]) := ⟨R_from hR⟩
  clear hR hb
  obtain ⟨A7, c7, rfl, _, _⟩ := Kd.R_reads R7.out
  go_wp2_with fail
  have ha : atF 2 2 sm1 3 = ⟨true, 5, 2, [9]⟩ := by rfl
  have hA := At_calls w7 L7.out (by decide) 3
  rw [ha] at hA
  refine hA.mono ?_
  clear hA ha
  rintro e w8 ⟨v8, rfl, hR, hb⟩
  have L8 := Aside0.mk (L7.out.below hb)
  have B8 := Aside0.mk (below_thenB B7.out hb B7.out.size)
  have R8 := Aside0.mk (Kd.R_below R7.out hb)
  have E8 := Aside0.mk (E7.out.below ⟨hb⟩)
  obtain ⟨A8, c8, rfl, _, _⟩ := Kd.R_reads hR
  clear hR hb
  go_wp2_with fail
  have hbX := below_alloc (Below.refl w8.heap.size w8) (.cells #[.bool true, .int .i64 5, .int .i64 2, .slice A8 1 c8] 43)
  have HX := heap_new w8 (.cells #[.bool true, .int .i64 5, .int .i64 2, .slice A8 1 c8] 43)
  have hxg : w8.heap.size ≠ w.heap.size := Nat.ne_of_gt L8.out.lt
  generalize w8.alloc (.cells #[.bool true, .int .i64 5, .int .i64 2, .slice A8 1 c8] 43) = w9 at hbX HX ⊢
  have L9 := Aside0.mk (L8.out.below hbX)
  have B9 := Aside0.mk (below_thenB B8.out hbX B8.out.size)
  have R9 := Aside0.mk (Kd.R_below R8.out hbX)
  have E9 := Aside0.mk (E8.out.below ⟨hbX⟩)
  clear L8 R8 E8 hbX
  refine (Tick_calls w9 L9.out (by decide)).mono ?_
  rintro e w10 ⟨rfl, hL, hO⟩
  have B10 := bonly B9 hO (Nat.le_refl _)
  have L10 : Aside0 (LN w10 w.heap.size 2 3 sm1) := ⟨hL⟩
  have E10 := Aside0.mk (E9.out.only hO L9.out.blk)
  have R10 := Aside0.mk (R_only R9.out hO (fun k hk => by omega))
  replace HX := heap_only hO hxg HX
  clear hL hO L9 E9 R9
  go_wp2_with fail
  have hf : isF 2 3 sm1 3 = false := by rfl
  have hA := Fresh_calls w10 L10.out (by decide) 3
  rw [hf] at hA
  refine hA.mono ?_
  clear hA hf
  rintro e w11 ⟨v11, rfl, hR, hb⟩
  obtain ⟨A11, c11, rfl, _, _⟩ := Kd.R_reads hR
  have B11 := Aside0.mk (below_thenB B10.out hb B10.out.size)
  have L11 := Aside0.mk (L10.out.below hb)
  have E11 := Aside0.mk (E10.out.below ⟨hb⟩)
  have R11 := Aside0.mk (Kd.R_below R10.out hb)
  replace HX := heap_below ⟨hb⟩ HX
  clear hR hb L10 E10 R10
  go_wp2_with fail
  refine (TakeN w11 L11.out (by decide) 3 5 _ 0 0 [] (Kd.C_nil _ _) (by decide)).mono ?_
  rintro e w12 ⟨v12, rfl, hE, hL, hO⟩
  have B12 := bonly B11 hO (Nat.le_refl _)
  have L12 : Aside0 (LN w12 w.heap.size 2 3 sm2) := ⟨hL⟩
  have := hE.nil; subst this
  have E12 := Aside0.mk (E11.out.only hO L11.out.blk)
  have R12 := Aside0.mk (R_only R11.out hO (fun k hk => by omega))
  replace HX := heap_only hO hxg HX
  clear hE hL hO L11 E11 R11
  go_wp2_with fail
  refine (TakeN w12 L12.out (by decide) 16 0 _ 0 0 [] (Kd.C_nil _ _) (by decide)).mono ?_
  rintro e w13 ⟨v13, rfl, hE, hL, hO⟩
  have B13 := bonly B12 hO (Nat.le_refl _)
  have L13 : Aside0 (LN w13 w.heap.size 2 3 sm2) := ⟨hL⟩
  have F13 : Aside0 (ErrP w13 1 [sLink] v13) := Aside0.mk (hE.err (by decide))
  have E13 : Aside0 (ErrP w13 4 [sLink] _) := Aside0.mk (E12.out.only hO L12.out.blk)
  have R13 := Aside0.mk (R_only R12.out hO (fun k hk => by omega))
  replace HX := heap_only hO hxg HX
  obtain ⟨ty13, x13, rfl⟩ := F13.out.iface
  clear hE hL hO L12 E12 R12
  go_wp2_with fail
  refine (code_err _ _ 4 w13 (HG.out.below B13) E13.out).mono ?_
  rintro e w14 ⟨rfl, hb⟩
  have B14 := Aside0.mk (below_thenB B13.out hb B13.out.size)
  have L14 := Aside0.mk (L13.out.below hb)
  have F14 := Aside0.mk (F13.out.below ⟨hb⟩)
  have R14 := Aside0.mk (Kd.R_below R13.out hb)
  replace HX := heap_below ⟨hb⟩ HX
  clear hb L13 F13 R13
  obtain ⟨_, _, C14⟩ := Kd.R_reads' R14.out
  have hs : strOfNums [9] = { data := #[9] } := by rfl
  have hv : (convert 28 9 (.slice A7 1 c7)).run Tryd.prog w14 = .ok (.string { data := #[9] }) w14 := by rw [← hs]; exact Kd.C_string (P := Tryd.prog) (src := 28) (dst := 9) (e := 5) (c := c7) Tryd.underlying28 Tryd.underlying5 Tryd.underlying9 C14
  have x0 : w14.cell? ⟨w8.heap.size, 0, none⟩ = some (.bool true) := cell_of_heap HX 0
  have x1 : w14.cell? ⟨w8.heap.size, 1, none⟩ = some (.int .i64 5) := cell_of_heap HX 1
  have x2 : w14.cell? ⟨w8.heap.size, 2, none⟩ = some (.int .i64 2) := cell_of_heap HX 2
  clear C14 hs
  go_wp2_with fail
  refine (code_err _ _ 1 w14 (HG.out.below B14) F14.out).mono ?_
  rintro e w15 ⟨rfl, hb⟩
  have B15 := Aside0.mk (below_thenB B14.out hb B14.out.size)
  have L15 := Aside0.mk (L14.out.below hb)
  clear hb hv x0 x1 x2
  go_wp2_with fail
  have ha : atF 2 3 sm2 4 = ⟨false, 0, 0, []⟩ := by rfl
  have hA := At_calls w15 L15.out (by decide) 4
  rw [ha] at hA
  refine hA.mono ?_
  clear hA ha
  rintro e w16 ⟨v16, rfl, hR, hb⟩
  have B16 := Aside0.mk (below_thenB B15.out hb B15.out.size)
  obtain ⟨A16, c16, rfl, _, _⟩ := Kd.R_reads hR
  clear hb hR
  have hf := field43_0
  go_wp2_with fail
  go_ret
  exact ⟨rfl, B16.out⟩
end Go.Proofs.YtcikcehphpbfhaaDoor.PE
