/- Bare nil errors: errors.As, fault.Path; the text of any error of a number that came through a place; a row that is overwritten. -/
import Derived.Test.YtcheifegfigegaaDoorHItoa
import Derived.Test.YtcheifegfigegaaDoorHPath
namespace Go.Proofs.YtcheifegfigegaaDoor.PE
open Go.RowKit Go.Extern.Stop Go.Stop Go.Extern Go.Proofs.YtcheifegfigegaaDoorW.PrintWords Go.Proofs.YtcheifegfigegaaDoorW.PrintLast Go.Proofs.YtcheifegfigegaaDoorW.PrintMore
set_option linter.unusedVariables false
set_option linter.unusedSimpArgs false
set_option maxHeartbeats 4000000 in
theorem As_nil (t : Addr) (w : World) : Calls Tryd.prog 17 #[.nilIface, .iface 46 (.pointer (some t))] w fun e w' => e = .returned (.bool false) ∧ w' = w := by
  go_enter Tryd.func17, Tryd.ntmps17
  go_wp2_with fail
  go_ret
  exact ⟨rfl, rfl⟩
set_option maxHeartbeats 4000000 in
set_option maxRecDepth 100000 in
theorem Path_nil (w : World) : Calls Tryd.prog 12 #[.nilIface] w fun e w' => e = .returned (.slice none 0 0) ∧ Below w.heap.size w w' := by
  go_enter Tryd.func12, Tryd.ntmps12
  go_wp2_with fail
  go_loopg [0, 3, 4] 0 (fun n x v a W => x = .nilIface ∧ v = .slice none 0 0 ∧ a = .pointer (some ⟨w.heap.size, 0, none⟩) ∧ Aside0 (Below w.heap.size w W))
  case atStart => exact ⟨rfl, rfl, rfl, ⟨below_alloc (Below.refl _ _) _⟩⟩
  case round =>
    obtain ⟨rfl, rfl, rfl, BW⟩ := hrel
    go_wp2_with fail
    refine (As_nil _ wr).mono ?_
    rintro e wz ⟨rfl, hz⟩
    have hz := hz.symm
    subst hz
    go_wp2_with fail
    go_ret
    exact ⟨rfl, BW.out⟩
theorem ErrV {c : Int} {q : List ByteArray} {v : Value} {w : World} (h0 : -9223372036854775808 ≤ c) (h1 : c ≤ 9223372036854775807) (hv : ErrP w c q v) (hq : 1 ≤ q.length) (hl : q.length ≤ 50) (hs : ∀ x ∈ q, x.size ≤ reachBytes) :
    ∃ g, v = .iface 45 (.pointer (some ⟨g, 0, none⟩)) ∧ ∀ W, Below w.heap.size w W → Gtab W → Calls Tryd.prog 61 #[.pointer (some ⟨g, 0, none⟩)] W fun e w' => e = .returned (.string (textOf (numText c) q)) ∧ Below W.heap.size W w' := by
  cases q with
  | nil => simp at hq
  | cons s q =>
    obtain ⟨g, v', rfl, hg, hv'⟩ := hv
    refine ⟨g, rfl, fun W hW ht => ?_⟩
    exact ErrN_calls c reachBytes h0 h1 (by decide) q s g v' W ht (by simp at hl; omega) (hs s List.mem_cons_self) (fun x hx => hs x (List.mem_cons_of_mem _ hx)) (heap_below ⟨hW⟩ hg) (hv'.below ⟨hW⟩)
theorem text_small {c : Int} {q : List ByteArray} (h0 : -9223372036854775808 ≤ c) (h1 : c ≤ 9223372036854775807) (hl : q.length ≤ 50) (hs : ∀ x ∈ q, x.size ≤ reachBytes) : (textOf (numText c) q).size ≤ 9223372036854775807 - 1000 := by
  have hn := numText_size c h0 h1
  have hz := textOf_size (numText c) reachBytes q hs
  have hz2 : q.length * (reachBytes + 2) ≤ 50 * (reachBytes + 2) := Nat.mul_le_mul hl (Nat.le_refl _)
  have hz3 : 50 * (reachBytes + 2) ≤ 9223372036854775807 - 2000 := by decide
  omega
def FilledS (g n : Nat) (A : Option Addr) (W : World) : Prop := (A = some ⟨g, 0, none⟩ ∧ ∃ cur, W.heap[g]? = some (.cells cur 9 (0, 0)) ∧ n ≤ cur.size) ∨ (A = none ∧ n = 0)
theorem R_fillS {W : World} {base n c : Nat} {ok : Nat → Prop} {A : Option Addr} {xs : List ByteArray} (h : Kd.R Kd.string 9 W base ok (.slice A n c) xs) : ∃ g, base ≤ g ∧ FilledS g n A W := by
  have hn := (Kd.R_reads' h).1
  obtain ⟨_, inner, ho, hr⟩ := h
  rcases ho.2 with ⟨hv, hl⟩ | ⟨g, cap, cur, hv, hg, hh, r⟩
  · injection hv with h1 h2 h3
    exact ⟨base, Nat.le_refl _, .inr ⟨h1, h2⟩⟩
  · injection hv with h1 h2 h3
    refine ⟨g, hg, .inl ⟨h1, cur, hh, ?_⟩⟩
    have h4 : cur.size = cap * 1 := r.2.2.1
    have h5 : xs.length ≤ cap := r.1
    omega
theorem blk_setS {W : World} {g : Nat} {cs : Array Value} {t : TypeId} (h : W.heap[g]? = some (.cells cs t (0, 0))) (j : Nat) (u : Value) : (W.setCell ⟨g, j, none⟩ u).heap[g]? = some (.cells (cs.setIfInBounds j u) t (0, 0)) := by
  simp only [World.setCell, Array.getElem?_modify, h]
  simp
end Go.Proofs.YtcheifegfigegaaDoor.PE
