/- fault.Path by its contract. -/
import Derived.Test.YtcheifegfigegaaDoorHAs3
import Derived.Below
import Derived.Laws.Slices
import Derived.Deep.AppendLies
import Derived.Maps.AppendAt
namespace Go.Proofs.YtcheifegfigegaaDoor.PE
open Go.RowKit Go.Extern.Stop Go.Stop Go.Extern Go.Proofs.YtcheifegfigegaaDoorW.PrintWords Go.Proofs.YtcheifegfigegaaDoorW.PrintLast Go.Proofs.YtcheifegfigegaaDoorW.PrintMore
set_option linter.unusedVariables false
set_option linter.unusedSimpArgs false
theorem info9 : (Tryd.prog.info? 9).map (fun i => (i.zero, i.size, i.bytes)) = some (some (.string ⟨#[]⟩), 1, 16) := by kernel_rfl
theorem setR9 {w : World} {base : Nat} {ok : Nat → Prop} {v : Value} {xs : List ByteArray} (h : Kd.R Kd.string 9 w base ok v xs) {g : Nat} {cells : Array Value} (hb : w.heap[g]? = some (.cells cells 45 (0, 0))) (j : Nat) (u : Value) : Kd.R Kd.string 9 (w.setCell ⟨g, j, none⟩ u) base ok v xs :=
  Kd.R_set h hb (fun q hq => by
    have hE : Kd.string.E = [] := rfl
    rw [hE, List.mem_singleton] at hq
    omega) j u
/-- A block's cells behind a store into it. -/
theorem heap_set_new {W : World} {g i : Nat} {cs : Array Value} {t : TypeId} {u : Value} (hb : W.heap[g]? = some (.cells cs t (0, 0))) : ∃ cs', (W.setCell ⟨g, i, none⟩ u).heap[g]? = some (.cells cs' t (0, 0)) := by
  simp only [World.setCell, Array.getElem?_modify, hb]
  simp
theorem cell_set_new {W : World} {g : Nat} {old : Value} {t : TypeId} {u : Value} (hb : W.heap[g]? = some (.cells #[old] t (0, 0))) : (W.setCell ⟨g, 0, none⟩ u).cell? ⟨g, 0, none⟩ = some u := by
  simp only [World.cell?, World.setCell, Array.getElem?_modify, hb]
  simp
set_option maxHeartbeats 4000000 in
set_option maxRecDepth 100000 in
theorem Path_calls (p : List ByteArray) (v : Value) (c : Int) (w : World) (hg : Gerr w) (hv : ErrP w c p v) (hp : p.length ≤ 1000000) :
    Calls Tryd.prog 12 #[v] w fun e w' => ∃ v', e = .returned v' ∧ Kd.R Kd.string 9 w' w.heap.size (fun _ => True) v' p ∧ Below w.heap.size w w' := by
  have HG := Aside0.mk hg
  have HV := Aside0.mk hv
  have HP := Aside0.mk hp
  clear hg hv hp
  go_enter Tryd.func12, Tryd.ntmps12
  go_wp2_with fail
  go_loopg [0, 3, 4] p.length (fun n x v a W => ∃ (q pre : List ByteArray) (t : Nat) (old : Value), Aside0 (q.length = n) ∧ Aside0 (p = pre ++ q) ∧ Aside0 (ErrP w c q x) ∧ Aside0 (Kd.R Kd.string 9 W w.heap.size (fun _ => True) v pre) ∧ a = .pointer (some ⟨t, 0, none⟩) ∧ Aside0 (W.heap[t]? = some (.cells #[old] 45 (0, 0))) ∧ Aside0 (w.heap.size ≤ t) ∧ Aside0 (Below w.heap.size w W))
  case atStart => exact ⟨p, [], w.heap.size, .pointer none, ⟨rfl⟩, ⟨rfl⟩, HV, ⟨Kd.R_nil _ _ _ _ _⟩, rfl, ⟨heap_new _ _⟩, ⟨Nat.le_refl _⟩, ⟨below_alloc (Below.refl _ _) _⟩⟩
  case round =>
    obtain ⟨q, pre, t, old, hq, HPQ, HX, HR, rfl, HT, HTL, BW⟩ := hrel
    cases q with
    | nil =>
      obtain rfl := HX.out
      go_wp2_with fail
      refine (As2_none c ⟨t, 0, none⟩ old wr (HG.out.below BW) (cell_of_heap HT.out 0) (frozen_of_heap HT.out 0)).mono ?_
      rintro e w4 ⟨rfl, hb⟩
      have R4 := Aside0.mk (Kd.R_below HR.out hb)
      have B4 := btrans BW ⟨hb⟩
      clear hb
      go_wp2_with fail
      go_ret
      exact ⟨_, rfl, by rw [HPQ.out]; simpa using R4.out, B4.out⟩
    | cons s q =>
      obtain ⟨g, v', e, hgb, hv'⟩ := HX.out
      subst e
      obtain ⟨ty, y, rfl⟩ := hv'.iface
      have HX' := Aside0.mk hv'
      have HGB := Aside0.mk hgb
      clear hv' hgb HX
      go_wp2_with fail
      refine (As2_some g ⟨t, 0, none⟩ old wr (HG.out.below BW) (cell_of_heap HT.out 0) (frozen_of_heap HT.out 0)).mono ?_
      rintro e w5 ⟨rfl, w4, hb, hw5⟩
      have HT4 := heap_below ⟨hb⟩ HT.out
      have B4 := btrans BW ⟨hb⟩
      have B5 : Aside0 (Below w.heap.size w w5) := ⟨by rw [hw5]; exact B4.out.setCell HTL.out _⟩
      have R5 : Aside0 (Kd.R Kd.string 9 w5 w.heap.size (fun _ => True) u3 pre) := ⟨by rw [hw5]; exact setR9 (Kd.R_below HR.out hb) HT4 0 _⟩
      have c5 : w5.cell? ⟨t, 0, none⟩ = some (.pointer (some ⟨g, 0, none⟩)) := by rw [hw5]; exact cell_set_new HT4
      have HT5 : Aside0 (∃ cs', w5.heap[t]? = some (.cells cs' 45 (0, 0))) := ⟨by rw [hw5]; exact heap_set_new HT4⟩
      have d0 : w5.cell? ⟨g, 0, none⟩ = some (.string s) := cell_of_heap (heap_below B5 HGB.out) 0
      have HLEN := Aside0.mk (show pre.length ≤ 1000000 by have h1 := HP.out; rw [HPQ.out] at h1; simp at h1; omega)
      clear hw5 HT4 hb B4 HR HT BW
      go_wp2_with ((with_reducible refine gate_builtin (b := .append) (xs := #[.tmp 12, .tmp 17]) rfl ?_); at_builtin; refine Kd.R_append Kd.string (w0 := w) w.heap.size rfl (.tmp 12) (.tmp 17) 22 9 (.string ⟨#[]⟩) 16 rfl Tryd.underlying22 info9 rfl (by decide) (by decide) _ pre s [.string s] (fun _ => True) (fun _ => False) rfl rfl ?aM (fun _ h => h.elim) (fun _ _ => trivial) R5.out B5.out B5.out.size ?aL ?_)
      case aM => rfl
      case aL => have h1 := HLEN.out; omega
      intro v6 w6 ho hb6 hgr hat
      have R6 := Aside0.mk ho
      have B6 := Aside0.mk hb6
      have c6 : w6.cell? ⟨t, 0, none⟩ = some (.pointer (some ⟨g, 0, none⟩)) := by
        obtain ⟨cs', hcs⟩ := HT5.out
        have hne := Kd.R_ne R5.out hcs (by decide)
        have hbl := hgr.block t (heap_lt hcs) hne
        have e : w6.cell? ⟨t, 0, none⟩ = w5.cell? ⟨t, 0, none⟩ := by unfold World.cell?; simp only [hbl]
        rw [e]; exact c5
      clear ho hb6 hgr hat c5 d0 HT5 R5 B5
      have d1 : (w6.alloc (.cells #[.pointer (some ⟨g, 0, none⟩)] 45)).cell? ⟨g, 1, none⟩ = some (.iface ty y) := cell_of_heap (heap_below (balloc B6 _) HGB.out) 1
      go_wp2_with fail
      go_roundg q.length
      case measure => have := hq.out; simp at this; omega
      case rel => exact ⟨q, pre ++ [s], w6.heap.size, _, ⟨rfl⟩, ⟨by rw [HPQ.out]; simp⟩, HX', ⟨Kd.R_below R6.out (below_alloc (Below.refl _ _) _)⟩, rfl, ⟨heap_new _ _⟩, ⟨B6.out.size⟩, ⟨below_alloc B6.out _⟩⟩
end Go.Proofs.YtcheifegfigegaaDoor.PE
