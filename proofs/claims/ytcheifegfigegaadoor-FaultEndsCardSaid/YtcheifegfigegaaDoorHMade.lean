/- Made by its contract: an error that came through places, and its path. -/
import Derived.Test.YtcheifegfigegaaDoorHFSmall
namespace Go.Proofs.YtcheifegfigegaaDoor.PE
open Go.RowKit Go.Extern.Stop Go.Stop Go.Extern Go.Proofs.YtcheifegfigegaaDoorW.PrintWords Go.Proofs.YtcheifegfigegaaDoorW.PrintLast Go.Proofs.YtcheifegfigegaaDoorW.PrintMore
set_option linter.unusedVariables false
set_option linter.unusedSimpArgs false
theorem str_at {w : World} {A : Option Addr} {n : Nat} {l : List ByteArray} (h : Kd.C Kd.string w A n l) (i : Nat) (hi : i < n) :
    ∃ ad, A = some ad ∧ w.cell? (ad.add i) = some (.string (l.getD i ⟨#[]⟩)) := by
  obtain ⟨hn, hm, hk⟩ := h
  obtain ⟨ad, rfl, hc⟩ := hk (by omega)
  have hi2 : i < l.length := by omega
  obtain ⟨cs, hl, hK, hcell⟩ := hc i (l.getD i ⟨#[]⟩) (by rw [List.getD_eq_getElem?_getD, List.getElem?_eq_getElem hi2]; rfl)
  have e : cs = [.string (l.getD i ⟨#[]⟩)] := hK
  subst e
  have := hcell 0 _ rfl
  have e2 : i * Kd.string.sz + 0 = i := by show i * 1 + 0 = i; omega
  rw [e2] at this
  exact ⟨ad, rfl, this⟩
theorem str_at2 {w : World} {A : Option Addr} {n : Nat} {l : List ByteArray} (h : Kd.C Kd.string w A n l) (i : Nat) (hi : i < n) :
    ∃ ad s, A = some ad ∧ w.cell? (ad.add i) = some (.string s) ∧ l.take (i + 1) = l.take i ++ [s] ∧ s ∈ l := by
  obtain ⟨ad, e, hc⟩ := str_at h i hi
  have hi2 : i < l.length := by have := h.1; omega
  rw [List.getD_eq_getElem?_getD, List.getElem?_eq_getElem hi2] at hc
  exact ⟨ad, l[i], e, hc, by rw [List.take_succ_eq_append_getElem hi2], List.getElem_mem hi2⟩
/-- An error of a number, or none where it is 0. -/
def EV (W : World) (n : Int) (q : List ByteArray) (v : Value) : Prop := (n = 0 ∧ v = .nilIface) ∨ (n ≠ 0 ∧ ErrP W n q v)
theorem EV.below {W W' : World} (h : Aside0 (Below W.heap.size W W')) {n : Int} {q : List ByteArray} {v : Value} (e : EV W n q v) : EV W' n q v := e.imp id (fun e => ⟨e.1, e.2.below h⟩)
theorem newEV (n : Int) (s : ByteArray) (w : World) :
    Calls Tryd.prog 21 #[.int .i64 n, .string s] w fun e w' => ∃ v, e = .returned v ∧ EV w' n [s] v ∧ Below w.heap.size w w' := by
  by_cases h : n = 0
  · subst h
    refine (new_ok s w).mono ?_
    rintro e w' ⟨rfl, rfl⟩
    exact ⟨_, rfl, .inl ⟨rfl, rfl⟩, Below.refl _ _⟩
  · refine (new_err n s w (by simpa using h)).mono ?_
    rintro e w' ⟨v, rfl, hv, hb⟩
    exact ⟨_, rfl, .inr ⟨h, hv⟩, hb⟩
theorem wrapEV (n : Int) (q : List ByteArray) (v : Value) (s : ByteArray) (w : World) (hv : EV w n q v) :
    Calls Tryd.prog 18 #[v, .string s] w fun e w' => ∃ v', e = .returned v' ∧ EV w' n (s :: q) v' ∧ Below w.heap.size w w' := by
  rcases hv with ⟨h, rfl⟩ | ⟨h, hv⟩
  · refine (wrap_nil s w).mono ?_
    rintro e w' ⟨rfl, rfl⟩
    exact ⟨_, rfl, .inl ⟨h, rfl⟩, Below.refl _ _⟩
  · refine (wrap_err q v n s w hv).mono ?_
    rintro e w' ⟨v', rfl, hv, hb⟩
    exact ⟨_, rfl, .inr ⟨h, hv⟩, hb⟩
theorem R_lit1 (w : World) (x : ByteArray) : Kd.R Kd.string 9 (w.alloc (.cells #[.string x] 9)) w.heap.size (fun _ => True) (.slice (some ⟨w.heap.size, 0, none⟩) 1 1) [x] :=
  ⟨fun _ _ => trivial, OwnRow.lit (ps := [x]) (inner := [.string x]) w w.heap.size (Kd.reps_scalar [x]) (Nat.le_refl _) (by simp)⟩
set_option maxHeartbeats 8000000 in
set_option maxRecDepth 100000 in
theorem Made_calls (n : Int) (l : List ByteArray) (A : Option Addr) (c : Nat) (w : World) (hC : Kd.C Kd.string w A l.length l) (hcc : l.length ≤ c) (hl : 1 ≤ l.length ∧ l.length ≤ 50) :
    Calls Tryd.prog 10 #[.int .i64 n, .slice A l.length c] w fun e w' => ∃ v pv, e = .returned (.tuple #[v, pv]) ∧ EV w' n l.reverse v ∧ Kd.R Kd.string 9 w' w.heap.size (fun _ => True) pv l.reverse ∧ Below w.heap.size w w' := by
  have HC := Aside0.mk hC
  have HL := Aside0.mk hl
  obtain ⟨ad, s0, rfl, h0, hs0, -⟩ := str_at2 hC 0 (by omega)
  rw [show ad.add 0 = ad by cases ad; rfl] at h0
  have HS0 := Aside0.mk hs0
  have H0 := Aside0.mk h0
  have hp : 0 < l.length := by omega
  clear hC hcc hl hs0
  go_enter Tryd.func10, Tryd.ntmps10
  go_wp2_with fail
  refine (newEV n _ w).mono ?_
  rintro e w1 ⟨v1, rfl, hv, hb⟩
  have E1 := Aside0.mk hv
  have B1 := Aside0.mk hb
  have h1 : w1.cell? ad = some (.string s0) := bcellA B1 H0.out
  clear hv hb h0
  go_wp2_with fail
  go_loopw [6, 7, 8] (fun v pv iv W => ∃ k : Nat, 1 ≤ k ∧ k ≤ l.length ∧ iv = .int .i64 k ∧ Aside0 (EV W n (l.take k).reverse v) ∧ Aside0 (Kd.R Kd.string 9 W w.heap.size (fun _ => True) pv (l.take k).reverse) ∧ Aside0 (Below w.heap.size w W)) (fun _ _ iv _ => l.length - (intOf iv).toNat)
  case atStart =>
    refine ⟨1, by omega, by omega, rfl, ⟨?_⟩, ⟨?_⟩, balloc B1 _⟩
    · rw [HS0.out]; exact E1.out.below (balloc ⟨Below.refl _ _⟩ _)
    · rw [HS0.out]; exact Kd.R_lower (R_lit1 w1 s0) B1.out.size
  case round =>
    obtain ⟨k, hk1, hk, rfl, HE, HR, BW⟩ := hrel
    have hk50 : k ≤ 50 := by have := HL.out; omega
    by_cases hlt : k < l.length
    · have dk : decide (k < l.length) = true := decide_eq_true hlt
      have HLT := Aside0.mk hlt
      obtain ⟨ad', s, e, hs, hst, -⟩ := str_at2 HC.out k hlt
      obtain rfl : ad = ad' := Option.some.inj e
      have hrev : s :: (l.take k).reverse = (l.take (k + 1)).reverse := by rw [hst, List.reverse_append]; rfl
      have hql : (l.take k).reverse.length ≤ 50 := by rw [List.length_reverse, List.length_take]; omega
      generalize (l.take k).reverse = q at hrev hql HE HR
      have HREV := Aside0.mk hrev
      have HQL := Aside0.mk hql
      have HS := Aside0.mk hs
      have hsr := bcellA BW hs
      have HK := Aside0.mk hk50
      clear e hst hs hk1 hk hrev hql
      go_wp2_with fail
      refine (wrapEV n _ _ s wr HE.out).mono ?_
      rintro e w2 ⟨v2, rfl, hv, hb⟩
      have E2 := Aside0.mk hv
      have B2 := btrans BW ⟨hb⟩
      have R2 := Aside0.mk (Kd.R_below HR.out hb)
      obtain ⟨Ap, cp, rfl, -, -⟩ := Kd.R_reads R2.out
      have hs2 := bcellA B2 HS.out
      clear hv hb HE HR BW hsr
      go_wp2_with ((with_reducible refine gate_builtin (b := .append) (xs := #[.tmp 34, .tmp 35]) rfl ?_); at_builtin; refine Kd.R_append_row Value.string ByteArray.empty (h1 := fun _ => rfl) (w0 := w2) w2.heap.size rfl (.tmp 34) (.tmp 35) 22 9 (.string ⟨#[]⟩) 16 rfl Tryd.underlying22 info9 rfl (by decide) (.slice (some ⟨w2.heap.size, 0, none⟩) 1 1) [s] q Ap _ cp (fun _ => True) rfl rfl (fun _ _ => trivial) ?aO ?aR ?aB ?aS ?aL ?_)
      case aO => exact R_lit1 w2 s
      case aR => exact Kd.C_alloc (Kd.R_reads' R2.out).2.2 _
      case aB => exact below_alloc (Below.refl _ _) _
      case aS => simp
      case aL => have h1 := HQL.out; simp; omega
      intro v5 w5 ho hb5 hgr hat
      have ho : Kd.R Kd.string 9 w5 w2.heap.size (fun _ => True) v5 (s :: q) := ho
      have hrev := HREV.out
      rw [hrev] at ho
      have R5 : Aside0 (Kd.R Kd.string 9 w5 w.heap.size (fun _ => True) v5 (l.take (k + 1)).reverse) := ⟨Kd.R_lower ho B2.out.size⟩
      have E5 : Aside0 (EV w5 n (l.take (k + 1)).reverse v2) := ⟨by rw [← hrev]; exact E2.out.below ⟨hb5⟩⟩
      have B5 := btrans B2 ⟨hb5⟩
      clear ho hb5 hgr hat hrev hs2 R2 E2
      go_wp2_with fail
      refine ⟨⟨k + 1, by omega, by have := HLT.out; omega, rfl, E5, R5, B5⟩, by have := HLT.out; simp [intOf]; omega⟩
    · have dk : decide (k < l.length) = false := decide_eq_false hlt
      have hkl : l.take k = l := List.take_of_length_le (by omega)
      rw [hkl] at HE HR
      clear hkl
      go_wp2_with fail
      exact bodyPost_ret (v := .tuple #[u6, u7]) (by simp [results, Tryd.results10, go_sem]) rfl ⟨u6, u7, rfl, HE.out, HR.out, BW.out⟩
end Go.Proofs.YtcheifegfigegaaDoor.PE
