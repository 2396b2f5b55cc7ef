/- The text of any error's number: strconv.Itoa by the library's contract, laid at this program; the texts of errors that came through places. -/
import Derived.Shelf.Strconv.Itoa0
import Derived.Shelf.Strconv.Itoa1
import Derived.Shelf.LaysM
import Derived.Shelf.Strconv.Itoa2
import Derived.Shelf.Strconv.Itoa3
import Derived.Lib.ItoaLen
import Derived.Lib.AppendIntMem
import Derived.Test.YtcheifegfigegaaDoorHText
import Derived.Test.YtcheifegfigegaaDoorHMade
namespace Go.Proofs.YtcheifegfigegaaDoor.PE
open Go.RowKit Go.Extern.Stop Go.Stop Go.Extern Go.Proofs.YtcheifegfigegaaDoorW.PrintWords Go.Proofs.YtcheifegfigegaaDoorW.PrintLast Go.Proofs.YtcheifegfigegaaDoorW.PrintMore
set_option linter.unusedVariables false
set_option linter.unusedSimpArgs false
open Go.Shelf in
def laysM171_ren : Go.Shelf.Ren := ⟨fun | 171 => 28 | 243 => 31 | 246 => 32 | 283 => 33 | 284 => 34 | 285 => 35 | 286 => 36 | 129 => 38 | 317 => 37 | 318 => 39 | 319 => 40 | 320 => 41 | 337 => 42 | 338 => 43 | n => n, fun | 3 => 3 | 9 => 9 | 2 => 2 | 4 => 4 | 171 => 84 | 0 => 0 | 53 => 85 | 37 => 88 | 5 => 5 | 173 => 89 | 212 => 93 | 51 => 94 | 20 => 20 | 213 => 95 | 46 => 97 | 232 => 100 | 233 => 101 | n => n, fun | 17 => 1 | 18 => 2 | 19 => 3 | n => n⟩
open Go.Shelf in
theorem laysM171 : Go.Proofs.LaysM.n171 Tryd.prog laysM171_ren := {
  mixed := by kernel_rfl
  f129 := Tryd.func38.trans (congrArg some (by kernel_rfl))
  f171 := Tryd.func28.trans (congrArg some (by kernel_rfl))
  f243 := Tryd.func31.trans (congrArg some (by kernel_rfl))
  f246 := Tryd.func32.trans (congrArg some (by kernel_rfl))
  f283 := Tryd.func33.trans (congrArg some (by kernel_rfl))
  f284 := Tryd.func34.trans (congrArg some (by kernel_rfl))
  f285 := Tryd.func35.trans (congrArg some (by kernel_rfl))
  f286 := Tryd.func36.trans (congrArg some (by kernel_rfl))
  f317 := Tryd.func37.trans (congrArg some (by kernel_rfl))
  f318 := Tryd.func39.trans (congrArg some (by kernel_rfl))
  f319 := Tryd.func40.trans (congrArg some (by kernel_rfl))
  f320 := Tryd.func41.trans (congrArg some (by kernel_rfl))
  f337 := Tryd.func42.trans (congrArg some (by kernel_rfl))
  f338 := Tryd.func43.trans (congrArg some (by kernel_rfl))
  t0 := Tryd.underlying0
  a0 := Tryd.isAgg0
  z0 := Tryd.sizeOf0
  v0 := Tryd.zeroValue0
  t2 := Tryd.underlying2
  a2 := Tryd.isAgg2
  z2 := Tryd.sizeOf2
  v2 := Tryd.zeroValue2
  t3 := Tryd.underlying3
  a3 := Tryd.isAgg3
  z3 := Tryd.sizeOf3
  v3 := Tryd.zeroValue3
  t4 := Tryd.underlying4
  a4 := Tryd.isAgg4
  z4 := Tryd.sizeOf4
  v4 := Tryd.zeroValue4
  t5 := Tryd.underlying5
  a5 := Tryd.isAgg5
  z5 := Tryd.sizeOf5
  v5 := Tryd.zeroValue5
  t9 := Tryd.underlying9
  a9 := Tryd.isAgg9
  z9 := Tryd.sizeOf9
  v9 := Tryd.zeroValue9
  t20 := Tryd.underlying20
  a20 := Tryd.isAgg20
  z20 := Tryd.sizeOf20
  v20 := Tryd.zeroValue20
  t37 := Tryd.underlying88
  a37 := Tryd.isAgg88
  z37 := Tryd.sizeOf88
  v37 := Tryd.zeroValue88
  t46 := Tryd.underlying97
  a46 := Tryd.isAgg97
  z46 := Tryd.sizeOf97
  v46 := Tryd.zeroValue97
  t51 := Tryd.underlying94
  a51 := Tryd.isAgg94
  z51 := Tryd.sizeOf94
  v51 := Tryd.zeroValue94
  t53 := Tryd.underlying85
  a53 := Tryd.isAgg85
  z53 := Tryd.sizeOf85
  v53 := Tryd.zeroValue85
  t171 := Tryd.underlying84
  a171 := Tryd.isAgg84
  z171 := Tryd.sizeOf84
  v171 := Tryd.zeroValue84
  t173 := Tryd.underlying89
  a173 := Tryd.isAgg89
  z173 := Tryd.sizeOf89
  v173 := Tryd.zeroValue89
  t212 := Tryd.underlying93
  a212 := Tryd.isAgg93
  z212 := Tryd.sizeOf93
  v212 := Tryd.zeroValue93
  t213 := Tryd.underlying95
  a213 := Tryd.isAgg95
  z213 := Tryd.sizeOf95
  t232 := Tryd.underlying100
  a232 := Tryd.isAgg100
  z232 := Tryd.sizeOf100
  v232 := Tryd.zeroValue100
  t233 := Tryd.underlying101
  a233 := Tryd.isAgg101
  z233 := Tryd.sizeOf101
  v233 := Tryd.zeroValue101
  g17 := by kernel_rfl
  g18 := by kernel_rfl
  g19 := by kernel_rfl
  i0 := by kernel_rfl
  i2 := by kernel_rfl
  i3 := by kernel_rfl
  i4 := by kernel_rfl
  i5 := by kernel_rfl
  i9 := by kernel_rfl
  i20 := by kernel_rfl
  i37 := by kernel_rfl
  i46 := by kernel_rfl
  i51 := by kernel_rfl
  i53 := by kernel_rfl
  i171 := by kernel_rfl
  i173 := by kernel_rfl
  i212 := by kernel_rfl
  i232 := by kernel_rfl
  i233 := by kernel_rfl
  m17 := by kernel_rfl
  m18 := by kernel_rfl
  m19 := by kernel_rfl }
open Go.RowKit Go.Sort Go.Lib in
/-- The table of the powers of ten lies as its initialiser laid it. -/
def Gtab (w : World) : Prop := Go.Lib.TabIs Tryd.prog w "internal/strconv.uint64pow10" .u64 Go.Lib.pow10Tab
theorem tabg : Tryd.prog.globalNamed "internal/strconv.uint64pow10" = some 1 := by kernel_rfl
theorem Gtab.below {w w1 : World} (h : Gtab w) (hb : Aside0 (Below w.heap.size w w1)) : Gtab w1 := by
  unfold Gtab Go.Lib.TabIs World.var? at h ⊢
  rw [tabg] at h ⊢
  simp only [Option.bind_some] at h ⊢
  have hlt : 1 < w.heap.size := by
    rcases Nat.lt_or_ge 1 w.heap.size with h1 | h1
    · exact h1
    · rw [Array.getElem?_eq_none h1] at h; cases h
  rw [hb.out.block 1 hlt]; exact h
/-- The text of the number n. -/
def numText (n : Int) : ByteArray := ⟨#[101, 114, 114, 111, 114, 32]⟩ ++ ⟨(Go.Lib.itoa n).toArray⟩
theorem numText_size (n : Int) (h0 : -9223372036854775808 ≤ n) (h1 : n ≤ 9223372036854775807) : (numText n).size ≤ 27 := by
  have h := Go.Lib.itoa_length_le n h0 h1
  have e : (numText n).size = 6 + (Go.Lib.itoa n).length := by
    unfold numText
    rw [ByteArray.size_append]
    rfl
  omega
theorem itoa_calls (n : Int) (h0 : -9223372036854775808 ≤ n) (h1 : n ≤ 9223372036854775807) (w : World) (htab : Gtab w) :
    Calls Tryd.prog 28 #[.int .i64 n] w fun e w' => e = .returned (.string ⟨(Go.Lib.itoa n).toArray⟩) ∧ Below w.heap.size w w' :=
  (Any.strconv_Itoa laysM171 n h0 h1 w htab).mono fun e w' ⟨he, k, os, hw⟩ => ⟨he, by rw [hw]; exact Go.Lib.below_grow _ _ (Nat.le_refl _) _ _⟩
set_option maxHeartbeats 4000000 in
theorem errno_calls (n : Int) (h0 : -9223372036854775808 ≤ n) (h1 : n ≤ 9223372036854775807) (w : World) (htab : Gtab w) :
    Calls Tryd.prog 19 #[.int .i64 n] w fun e w' => e = .returned (.string (numText n)) ∧ Below w.heap.size w w' := by
  have HT := Aside0.mk htab
  have H0 := Aside0.mk h0
  have H1 := Aside0.mk h1
  have hz : ¬ 9223372036854775807 < 6 + (Go.Lib.itoa n).length := by have := Go.Lib.itoa_length_le n h0 h1; omega
  clear htab h0 h1
  go_enter Tryd.func19, Tryd.ntmps19
  go_wp2_with fail
  refine (itoa_calls n H0.out H1.out w HT.out).mono ?_
  rintro e w1 ⟨rfl, hb⟩
  have B1 := Aside0.mk hb
  clear hb
  go_wp2_with fail
  go_ret
  exact ⟨rfl, B1.out⟩
/-- An error's text: of a chain that is not bare, of any number. -/
theorem ErrN_calls (c : Int) (B : Nat) (h0 : -9223372036854775808 ≤ c) (h1 : c ≤ 9223372036854775807) (hB : B ≤ 140737488355328) : ∀ (p : List ByteArray) (s : ByteArray) (g : Nat) (v' : Value) (w : World), Gtab w → p.length ≤ 1000 → s.size ≤ B → (∀ x ∈ p, x.size ≤ B) → w.heap[g]? = some (.cells #[.string s, v'] 48 (0, 0)) → ErrP w c p v' →
    Calls Tryd.prog 61 #[.pointer (some ⟨g, 0, none⟩)] w fun e w' => e = .returned (.string (textOf (numText c) (s :: p))) ∧ Below w.heap.size w w'
  | [], s, g, v', w, ht, _, hs, _, hg, hv => by
    obtain rfl : v' = .iface 24 (.int .i64 c) := hv
    have hz := numText_size c h0 h1
    exact Err_step24 (numText c) s g c w hg (by omega) (fun W hW => errno_calls c h0 h1 W (ht.below ⟨hW⟩))
  | s' :: p, s, g, v', w, ht, hl, hs, hp, hg, hv => by
    obtain ⟨h, v'', rfl, hh, hv'⟩ := hv
    have hn := numText_size c h0 h1
    have hz := textOf_size (numText c) B (s' :: p) hp
    simp only [List.length_cons] at hl hz
    have hz2 : (p.length + 1) * (B + 2) ≤ 1000 * (140737488355328 + 2) := Nat.mul_le_mul hl (by omega)
    refine Err_step45 (textOf (numText c) (s' :: p)) s g h w hg (by omega) (fun W hW => ?_)
    exact ErrN_calls c B h0 h1 hB p s' h v'' W (ht.below ⟨hW⟩) (by omega) (hp s' List.mem_cons_self) (fun x hx => hp x (List.mem_cons_of_mem _ hx)) (heap_below ⟨hW⟩ hh) (hv'.below ⟨hW⟩)
theorem textOf_app (T : ByteArray) (s : ByteArray) (p : List ByteArray) (u : ByteArray) : u ++ textOf T (s :: p) = (u ++ s ++ ⟨#[58, 32]⟩) ++ textOf T p := by
  show u ++ (s ++ ⟨#[58, 32]⟩ ++ textOf T p) = _
  rw [← ByteArray.append_assoc, ← ByteArray.append_assoc]
set_option maxHeartbeats 4000000 in
set_option maxRecDepth 100000 in
/-- The reference's text: of a path and a number. -/
theorem Text_calls (n : Int) (h0 : -9223372036854775808 ≤ n) (h1 : n ≤ 9223372036854775807) (p : List ByteArray) (A : Option Addr) (c : Nat) (w : World) (htab : Gtab w) (hC : Kd.C Kd.string w A p.length p) (hl : p.length ≤ 1000) (hz : (textOf (numText n) p).size ≤ 9223372036854775807) :
    Calls Tryd.prog 14 #[.slice A p.length c, .int .i64 n] w fun e w' => e = .returned (.string (textOf (numText n) p)) ∧ Below w.heap.size w w' := by
  have HT := Aside0.mk htab
  have H0 := Aside0.mk h0
  have H1 := Aside0.mk h1
  have HC := Aside0.mk hC
  have HL := Aside0.mk hl
  have HZ := Aside0.mk hz
  clear htab h0 h1 hC hl hz
  go_enter Tryd.func14, Tryd.ntmps14
  go_wp2_with fail
  go_loopg [5, 6] p.length (fun m u i W => ∃ (q : List ByteArray) (j : Nat) (a : ByteArray), Aside0 (q.length = m) ∧ Aside0 (p.drop j = q) ∧ Aside0 (j + q.length = p.length) ∧ u = .string a ∧ i = .int .i64 j ∧ Aside0 (a ++ textOf (numText n) q = textOf (numText n) p) ∧ Aside0 (Below w.heap.size w W))
  case atStart => exact ⟨p, 0, ⟨#[]⟩, ⟨rfl⟩, ⟨rfl⟩, ⟨by simp⟩, rfl, rfl, ⟨by rfl⟩, ⟨Below.refl _ _⟩⟩
  case round =>
    obtain ⟨q, j, a, hq, HD, HJ, rfl, rfl, HA, BW⟩ := hrel
    cases q with
    | nil =>
      have hj : decide (j < p.length) = false := by have := HJ.out; simp at this; simp; omega
      have hz1 : ¬ 9223372036854775807 < a.size + (numText n).size := by
        have h := HZ.out
        rw [← HA.out] at h
        show ¬ 9223372036854775807 < a.size + (textOf (numText n) []).size
        rw [ByteArray.size_append] at h
        omega
      go_wp2_with fail
      refine (errno_calls n H0.out H1.out wr (HT.out.below BW)).mono ?_
      rintro e w1 ⟨rfl, hb⟩
      have B1 := btrans BW ⟨hb⟩
      clear hb
      go_wp2_with fail
      go_ret
      exact ⟨by rw [← HA.out]; rfl, B1.out⟩
    | cons s q =>
      have hjl : j < p.length := by have := HJ.out; simp at this; omega
      have hj : decide (j < p.length) = true := decide_eq_true hjl
      obtain ⟨ad, hA, hc⟩ := str_at (Kd.C_below HC.out BW.out) j hjl
      obtain rfl := hA
      have hs : p.getD j ⟨#[]⟩ = s := by
        have h := HD.out
        rw [List.drop_eq_getElem_cons hjl] at h
        rw [List.getD_eq_getElem?_getD, List.getElem?_eq_getElem hjl]
        exact (List.cons.inj h).1
      rw [hs] at hc
      have h1 := HZ.out
      rw [← HA.out, textOf_app, ByteArray.size_append, ByteArray.size_append, ByteArray.size_append] at h1
      have hz2 : (⟨#[58, 32]⟩ : ByteArray).size = 2 := rfl
      rw [hz2] at h1
      have hz3 : ¬ 9223372036854775807 < a.size + s.size := by omega
      have hz4 : ¬ 9223372036854775807 < a.size + s.size + 2 := by omega
      clear h1 hz2
      have WR := Aside0.mk (show wrap64 ((j : Int) + 1) = ((j + 1 : Nat) : Int) by have := HL.out; unfold wrap64; omega)
      go_wp2_with fail
      go_roundg q.length
      case measure => have := hq.out; simp at this; omega
      case rel => exact ⟨q, j + 1, a ++ s ++ ⟨#[58, 32]⟩, ⟨rfl⟩, ⟨by have h := HD.out; rw [List.drop_eq_getElem_cons hjl] at h; exact (List.cons.inj h).2⟩, ⟨by have := HJ.out; simp at this; omega⟩, rfl, by rw [WR.out], ⟨by rw [← HA.out, textOf_app]⟩, BW⟩
end Go.Proofs.YtcheifegfigegaaDoor.PE
