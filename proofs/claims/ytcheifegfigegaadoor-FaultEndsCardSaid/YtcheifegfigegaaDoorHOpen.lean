/- From what a row reads of an argument (DataW.trod) to the kinds' words (Kd.K), kind by kind. -/
import Derived.Test.YtcheifegfigegaaDoorWWords
import Derived.ProofKit
import Derived.Deep.Slices
namespace Go.Proofs.YtcheifegfigegaaDoor.Open
open Go.RowKit Go.Proofs.YtcheifegfigegaaDoorW.PrintWords Go.Deep
variable {H : Type} {enc : TypeId × Value → H} {P : Program} {W : World}

/-- Whatever can be read at type t is of kind k, and ok. -/
def Dec {α : Type} (enc : TypeId × Value → H) (P : Program) (W : World) (k : Kd α) (t : TypeId) (ok : α → Prop) : Prop :=
  ∀ (fuel : Nat) (cs : List Value) (x : DataW H × List MemPlace), DataW.trod enc P W 0 (fun _ => true) true fuel t cs = some x → ∃ a, k.K W a cs ∧ ok a
theorem Dec.int {t : TypeId} {k : IntKind} (ht : P.underlying t = some (.int k)) : Dec enc P W (Kd.int k) t (fun n => (Lit.int k n).wf = true) := fun _ _ _ h => by
  obtain ⟨n, rfl, _, hn⟩ := DataW.trod_int ht h
  exact ⟨n, rfl, hn⟩
theorem Dec.bool {t : TypeId} (ht : P.underlying t = some .bool) : Dec enc P W Kd.bool t (fun _ => True) := fun _ _ _ h => by
  obtain ⟨b, rfl, _⟩ := DataW.trod_bool ht h
  exact ⟨b, rfl, trivial⟩
theorem Dec.string {t : TypeId} (ht : P.underlying t = some .string) : Dec enc P W Kd.string t (fun s => s.size ≤ maxLen) := fun _ _ _ h => by
  obtain ⟨s, rfl, _, hs⟩ := DataW.trod_string ht h
  exact ⟨s, rfl, hs⟩
theorem Dec.slice {α : Type} {k : Kd α} {t e : TypeId} {ok : α → Prop} (ht : P.underlying t = some (.slice e)) (hc : P.cellsOf e = k.sz) (h : Dec enc P W k e ok) : Dec enc P W (Kd.slice e k) t (fun xs => ∀ x ∈ xs, ok x) := fun fuel cs x hx => by
  rcases open_slice ht hx with ⟨rfl, _⟩ | ⟨a, len, cap, m, n, D, Pl, rfl, _, hl, hm, hmm, _, hi⟩
  · exact ⟨[], ⟨none, 0, rfl, Nat.le_refl _, rfl, by simp, fun h => absurd h (by simp)⟩, by simp⟩
  · have hml : len ≤ m := by rw [hmm]; split <;> omega
    have hall : ∀ i, i < len → ∃ a', ∃ cs', W.cells? 0 (a.add (i * P.cellsOf e)) (P.cellsOf e) = some cs' ∧ k.K W a' cs' ∧ ok a' := fun i hlt => by
      obtain ⟨cs', h1, h2⟩ := hi i (by omega)
      obtain ⟨a', h3, h4⟩ := h _ _ _ h2
      exact ⟨a', cs', h1, h3, h4⟩
    rcases Nat.eq_zero_or_pos len with h0 | h0
    · subst h0
      exact ⟨[], ⟨some a, cap, rfl, Nat.zero_le _, rfl, by simp, fun h => absurd h (by simp)⟩, by simp⟩
    have hin : Nonempty α := ⟨(hall 0 h0).choose⟩
    have : Inhabited α := ⟨Classical.choice hin⟩
    obtain ⟨f, hf⟩ := choose_lt hall
    refine ⟨(List.range len).map f, ⟨some a, cap, by simp, by simpa using hl, by simp, ?_, fun _ => ⟨a, rfl, fun j p hp => ?_⟩⟩, fun x hx => ?_⟩
    · simp only [List.length_map, List.length_range]
      unfold maxLen at hm; omega
    · have hj : j < len := by
        have := (List.getElem?_eq_some_iff.1 hp).1
        simpa using this
      have hpf : p = f j := by
        rw [List.getElem?_map, List.getElem?_range hj] at hp
        exact (Option.some.inj hp).symm
      subst hpf
      obtain ⟨cs', h1, h2, _⟩ := hf j hj
      obtain ⟨_, hlen, hcell⟩ := World.cells?_some h1
      refine ⟨cs', by rw [hlen, hc], h2, fun i u hu => ?_⟩
      have hi' : i < P.cellsOf e := by
        have := (List.getElem?_eq_some_iff.1 hu).1
        omega
      rw [← Deep.add_add, ← hc, hcell i hi', hu]
    · obtain ⟨i, hi', rfl⟩ := List.mem_map.1 hx
      exact (hf i (List.mem_range.1 hi')).choose_spec.2.2
theorem Dec.iso {α β : Type} {k : Kd α} {t : TypeId} {ok : α → Prop} (h : Dec enc P W k t ok) (f : β → α) (g : α → β) (hfg : ∀ a, f (g a) = a) : Dec enc P W (Kd.iso k f) t (fun b => ok (f b)) := fun fuel cs x hx => by
  obtain ⟨a, h1, h2⟩ := h _ _ _ hx
  exact ⟨g a, by show k.K W (f (g a)) cs; rw [hfg]; exact h1, by show ok (f (g a)); rw [hfg]; exact h2⟩
/-- The fields from the one at offset o on. -/
def DecF {α : Type} (enc : TypeId × Value → H) (P : Program) (W : World) (k : Kd α) (o : Nat) (fs : List Field) (total : Nat) (ok : α → Prop) : Prop :=
  ∀ (n : Nat) (cs : List Value), cs.length = total → (∀ f ∈ fs, ∃ y, DataW.trod enc P W 0 (fun _ => true) true n f.type ((cs.drop f.offset).take (P.cellsOf f.type)) = some y) → ∃ a, k.K W a (cs.drop o) ∧ ok a
theorem DecF.last {α : Type} {k : Kd α} {o : Nat} {f : Field} {total : Nat} {ok : α → Prop} (ho : f.offset = o) (hs : o + P.cellsOf f.type = total) (h : Dec enc P W k f.type ok) : DecF enc P W k o [f] total ok := fun n cs hl hf => by
  obtain ⟨y, hy⟩ := hf f (by simp)
  rw [ho, List.take_of_length_le (by rw [List.length_drop]; omega)] at hy
  exact h _ _ _ hy
theorem DecF.cons {α β : Type} {k : Kd α} {r : Kd β} {o o' : Nat} {f : Field} {fs : List Field} {total : Nat} {ok : α → Prop} {okr : β → Prop} (ho : f.offset = o) (hs : o + P.cellsOf f.type = o') (h : Dec enc P W k f.type ok) (hr : DecF enc P W r o' fs total okr) :
    DecF enc P W (Kd.pair k r) o (f :: fs) total (fun x => ok x.1 ∧ okr x.2) := fun n cs hl hf => by
  obtain ⟨y, hy⟩ := hf f (by simp)
  obtain ⟨a, h1, h2⟩ := h _ _ _ hy
  obtain ⟨b, h3, h4⟩ := hr n cs hl (fun g hg => hf g (by simp [hg]))
  refine ⟨(a, b), ⟨_, _, ?_, h1, h3⟩, h2, h4⟩
  rw [ho, ← hs, ← List.drop_drop, List.take_append_drop]
theorem Dec.struct {α : Type} {k : Kd α} {t : TypeId} {fs : Array Field} {total : Nat} {ok : α → Prop} (ht : P.underlying t = some (.struct fs)) (hc : P.cellsOf t = total) (h : DecF enc P W k 0 fs.toList total ok) : Dec enc P W k t ok := fun fuel cs x hx => by
  obtain ⟨xs, n, _, _, hl, hn, hf⟩ := DataW.trod_struct ht hx
  obtain ⟨a, h1, h2⟩ := h n cs (hl.trans hc) (fun f hfm => by
    obtain ⟨i, hi, hif⟩ := List.getElem_of_mem hfm
    have hi2 : i < fs.size := by simpa using hi
    have h3 := hf i f (by rw [← hif]; simp [hi2])
    rw [List.getElem?_eq_getElem (by omega)] at h3
    exact ⟨_, h3⟩)
  exact ⟨a, h1, h2⟩
/-- An argument's value, its kind told. -/
theorem Dec.value {α : Type} {k : Kd α} {t : TypeId} {ok : α → Prop} (h : Dec enc P W k t ok) {v : Value} {d : DataW H} {p : List MemPlace} (hv : DataW.Trod enc P W 0 (fun _ => true) true t v d p) : ∃ a, k.K W a v.cells.toList ∧ ok a := by
  obtain ⟨fuel, hf⟩ := hv
  exact h _ _ _ hf
end Go.Proofs.YtcheifegfigegaaDoor.Open
