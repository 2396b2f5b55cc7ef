/- From what a row reads of an argument (DataW.trod) to the kinds' words (Kd.K), kind by kind. -/
import Derived.Test.YtfijlaahifeimaaDoorWWords
import Derived.ProofKit
import Derived.Deep.Slices
import Derived.SizedLaws
import Derived.DataShut
import Derived.Test.YtfijlaahifeimaaDoorMG
import Derived.WalkKit
import Derived.KernelRfl
import Derived.Test.YtfijlaahifeimaaDoorRows
import Derived.Test.YtfijlaahifeimaaDoorMA
import Derived.ChangeSame
import Derived.ChangeVars
import Derived.JoinedOf
import Derived.LaidLaws
import Derived.LaidHandle
import Derived.Stop.Joined
namespace Go.Proofs.YtfijlaahifeimaaDoor.Open
open Go.RowKit Go.Proofs.YtfijlaahifeimaaDoorW.PrintWords Go.Deep
variable {H : Type} {enc : TypeId × Value → H} {P : Program} {W : World}

/-- Whatever can be read at type t is of kind k, and ok. -/
def Dec {α : Type} (enc : TypeId × Value → H) (P : Program) (W : World) (k : Kd α) (t : TypeId) (ok : α → Prop) : Prop :=
  ∀ (fuel : Nat) (cs : List Value) (x : DataW H × List MemPlace), DataW.trod enc P W 0 (fun _ => true) true fuel t cs = some x → ∃ a, k.K W a cs ∧ ok a
theorem Dec.int {t : TypeId} {k : IntKind} (ht : P.underlying t = some (.int k)) : Dec enc P W (Kd.int k) t (fun n => (Lit.int k n).wf = true) := fun _ _ _ h => by
  obtain ⟨n, rfl, _, hn⟩ := DataW.trod_int ht h
  exact ⟨n, rfl, hn⟩
theorem Dec.bool {t : TypeId} (ht : P.underlying t = some .bool) : Dec enc P W Kd.bool t (fun _ => True) := fun _ _ _ h => by
  obtain ⟨b, rfl, _⟩ := DataW.trod_bool ht h
  exact ⟨b, rfl, trivial⟩
theorem Dec.string {t : TypeId} (ht : P.underlying t = some .string) : Dec enc P W Kd.string t (fun s => s.size ≤ maxLen) := fun _ _ _ h => by
  obtain ⟨s, rfl, _, hs⟩ := DataW.trod_string ht h
  exact ⟨s, rfl, hs⟩
theorem Dec.slice {α : Type} {k : Kd α} {t e : TypeId} {ok : α → Prop} (ht : P.underlying t = some (.slice e)) (hc : P.cellsOf e = k.sz) (h : Dec enc P W k e ok) : Dec enc P W (Kd.slice e k) t (fun xs => ∀ x ∈ xs, ok x) := fun fuel cs x hx => by
  rcases open_slice ht hx with ⟨rfl, _⟩ | ⟨a, len, cap, m, n, D, Pl, rfl, _, hl, hm, hmm, _, hi⟩
  · exact ⟨[], ⟨none, 0, rfl, Nat.le_refl _, rfl, by simp, fun h => absurd h (by simp)⟩, by simp⟩
  · have hml : len ≤ m := by rw [hmm]; split <;> omega
    have hall : ∀ i, i < len → ∃ a', ∃ cs', W.cells? 0 (a.add (i * P.cellsOf e)) (P.cellsOf e) = some cs' ∧ k.K W a' cs' ∧ ok a' := fun i hlt => by
      obtain ⟨cs', h1, h2⟩ := hi i (by omega)
      obtain ⟨a', h3, h4⟩ := h _ _ _ h2
      exact ⟨a', cs', h1, h3, h4⟩
    rcases Nat.eq_zero_or_pos len with h0 | h0
    · subst h0
      exact ⟨[], ⟨some a, cap, rfl, Nat.zero_le _, rfl, by simp, fun h => absurd h (by simp)⟩, by simp⟩
    have hin : Nonempty α := ⟨(hall 0 h0).choose⟩
    have : Inhabited α := ⟨Classical.choice hin⟩
    obtain ⟨f, hf⟩ := choose_lt hall
    refine ⟨(List.range len).map f, ⟨some a, cap, by simp, by simpa using hl, by simp, ?_, fun _ => ⟨a, rfl, fun j p hp => ?_⟩⟩, fun x hx => ?_⟩
    · simp only [List.length_map, List.length_range]
      unfold maxLen at hm; omega
    · have hj : j < len := by
        have := (List.getElem?_eq_some_iff.1 hp).1
        simpa using this
      have hpf : p = f j := by
        rw [List.getElem?_map, List.getElem?_range hj] at hp
        exact (Option.some.inj hp).symm
      subst hpf
      obtain ⟨cs', h1, h2, _⟩ := hf j hj
      obtain ⟨_, hlen, hcell⟩ := World.cells?_some h1
      refine ⟨cs', by rw [hlen, hc], h2, fun i u hu => ?_⟩
      have hi' : i < P.cellsOf e := by
        have := (List.getElem?_eq_some_iff.1 hu).1
        omega
      rw [← Deep.add_add, ← hc, hcell i hi', hu]
    · obtain ⟨i, hi', rfl⟩ := List.mem_map.1 hx
      exact (hf i (List.mem_range.1 hi')).choose_spec.2.2
theorem Dec.iso {α β : Type} {k : Kd α} {t : TypeId} {ok : α → Prop} (h : Dec enc P W k t ok) (f : β → α) (g : α → β) (hfg : ∀ a, f (g a) = a) : Dec enc P W (Kd.iso k f) t (fun b => ok (f b)) := fun fuel cs x hx => by
  obtain ⟨a, h1, h2⟩ := h _ _ _ hx
  exact ⟨g a, by show k.K W (f (g a)) cs; rw [hfg]; exact h1, by show ok (f (g a)); rw [hfg]; exact h2⟩
/-- The fields from the one at offset o on. -/
def DecF {α : Type} (enc : TypeId × Value → H) (P : Program) (W : World) (k : Kd α) (o : Nat) (fs : List Field) (total : Nat) (ok : α → Prop) : Prop :=
  ∀ (n : Nat) (cs : List Value), cs.length = total → (∀ f ∈ fs, ∃ y, DataW.trod enc P W 0 (fun _ => true) true n f.type ((cs.drop f.offset).take (P.cellsOf f.type)) = some y) → ∃ a, k.K W a (cs.drop o) ∧ ok a
theorem DecF.last {α : Type} {k : Kd α} {o : Nat} {f : Field} {total : Nat} {ok : α → Prop} (ho : f.offset = o) (hs : o + P.cellsOf f.type = total) (h : Dec enc P W k f.type ok) : DecF enc P W k o [f] total ok := fun n cs hl hf => by
  obtain ⟨y, hy⟩ := hf f (by simp)
  rw [ho, List.take_of_length_le (by rw [List.length_drop]; omega)] at hy
  exact h _ _ _ hy
theorem DecF.cons {α β : Type} {k : Kd α} {r : Kd β} {o o' : Nat} {f : Field} {fs : List Field} {total : Nat} {ok : α → Prop} {okr : β → Prop} (ho : f.offset = o) (hs : o + P.cellsOf f.type = o') (h : Dec enc P W k f.type ok) (hr : DecF enc P W r o' fs total okr) :
    DecF enc P W (Kd.pair k r) o (f :: fs) total (fun x => ok x.1 ∧ okr x.2) := fun n cs hl hf => by
  obtain ⟨y, hy⟩ := hf f (by simp)
  obtain ⟨a, h1, h2⟩ := h _ _ _ hy
  obtain ⟨b, h3, h4⟩ := hr n cs hl (fun g hg => hf g (by simp [hg]))
  refine ⟨(a, b), ⟨_, _, ?_, h1, h3⟩, h2, h4⟩
  rw [ho, ← hs, ← List.drop_drop, List.take_append_drop]
theorem Dec.struct {α : Type} {k : Kd α} {t : TypeId} {fs : Array Field} {total : Nat} {ok : α → Prop} (ht : P.underlying t = some (.struct fs)) (hc : P.cellsOf t = total) (h : DecF enc P W k 0 fs.toList total ok) : Dec enc P W k t ok := fun fuel cs x hx => by
  obtain ⟨xs, n, _, _, hl, hn, hf⟩ := DataW.trod_struct ht hx
  obtain ⟨a, h1, h2⟩ := h n cs (hl.trans hc) (fun f hfm => by
    obtain ⟨i, hi, hif⟩ := List.getElem_of_mem hfm
    have hi2 : i < fs.size := by simpa using hi
    have h3 := hf i f (by rw [← hif]; simp [hi2])
    rw [List.getElem?_eq_getElem (by omega)] at h3
    exact ⟨_, h3⟩)
  exact ⟨a, h1, h2⟩
/-- An argument's value, its kind told. -/
theorem Dec.value {α : Type} {k : Kd α} {t : TypeId} {ok : α → Prop} (h : Dec enc P W k t ok) {v : Value} {d : DataW H} {p : List MemPlace} (hv : DataW.Trod enc P W 0 (fun _ => true) true t v d p) : ∃ a, k.K W a v.cells.toList ∧ ok a := by
  obtain ⟨fuel, hf⟩ := hv
  exact h _ _ _ hf
end Go.Proofs.YtfijlaahifeimaaDoor.Open
/- From what a row reads of an argument to the kinds' words, with the sizes that the row allows. -/
namespace Go.Proofs.YtfijlaahifeimaaDoor.Open
open Go.RowKit Go.Proofs.YtfijlaahifeimaaDoorW.PrintWords Go.Deep
variable {H : Type} {enc : TypeId × Value → H} {P : Program} {W : World}
/-- Whatever can be read at type t, of parts that weigh no more than the row allows, is of kind k, and ok. -/
def DecS {α : Type} (enc : TypeId × Value → H) (P : Program) (W : World) (k : Kd α) (t : TypeId) (ok : α → Prop) : Prop :=
  ∀ (fuel : Nat) (cs : List Value) (x : DataW H × List MemPlace), DataW.trod enc P W 0 (fun _ => true) true fuel t cs = some x → (∀ n ∈ x.1.weights P t, n ≤ reachBytes) → ∃ a, k.K W a cs ∧ ok a
theorem DecS.of {α : Type} {k : Kd α} {t : TypeId} {ok : α → Prop} (h : Dec enc P W k t ok) : DecS enc P W k t ok := fun fuel cs x hx _ => h fuel cs x hx
theorem weightsAll_mem {P : Program} {e : TypeId} {l : List (DataW H)} {d : DataW H} (h : d ∈ l) : ∀ n ∈ d.weights P e, n ∈ DataW.weightsAll P e l := by
  induction l with
  | nil => simp at h
  | cons x r ih =>
    intro n hn
    simp only [DataW.weightsAll, List.mem_append]
    rcases List.mem_cons.1 h with rfl | h
    · exact .inl hn
    · exact .inr (ih h n hn)
theorem DecS.slice {α : Type} {k : Kd α} {t e : TypeId} {ok : α → Prop} {B : Nat} (ht : P.underlying t = some (.slice e)) (hc : P.cellsOf e = k.sz) (hB : P.bytesOf e = B) (h : DecS enc P W k e ok) : DecS enc P W (Kd.slice e k) t (fun xs => xs.length * B ≤ reachBytes ∧ ∀ x ∈ xs, ok x) := fun fuel cs x hx hw => by
  rcases open_slice ht hx with ⟨rfl, _⟩ | ⟨a, len, cap, m, n, D, Pl, rfl, _, hl, hm, hmm, hxx, hi⟩
  · exact ⟨[], ⟨none, 0, rfl, Nat.le_refl _, rfl, by simp, fun h => absurd h (by simp)⟩, by simp⟩
  · have hml : len ≤ m := by rw [hmm]; split <;> omega
    have hx1 : x.1 = .slice ((List.range len).map D) ((List.range (m - len)).map fun j => D (len + j)) := by rw [hxx]
    rw [hx1] at hw
    simp only [DataW.weights, ht, List.mem_cons, List.mem_append] at hw
    have hsz : len * B ≤ reachBytes := by
      have := hw _ (.inl rfl)
      simp only [List.length_map, List.length_range] at this
      rw [hB] at this
      exact Nat.le_trans (Nat.mul_le_mul_right _ (by omega)) this
    have hall : ∀ i, i < len → ∃ a', ∃ cs', W.cells? 0 (a.add (i * P.cellsOf e)) (P.cellsOf e) = some cs' ∧ k.K W a' cs' ∧ ok a' := fun i hlt => by
      obtain ⟨cs', h1, h2⟩ := hi i (by omega)
      obtain ⟨a', h3, h4⟩ := h _ _ _ h2 (fun n hn => hw n (.inr (.inl (weightsAll_mem (List.mem_map.2 ⟨i, List.mem_range.2 hlt, rfl⟩) n hn))))
      exact ⟨a', cs', h1, h3, h4⟩
    rcases Nat.eq_zero_or_pos len with h0 | h0
    · subst h0
      exact ⟨[], ⟨some a, cap, rfl, Nat.zero_le _, rfl, by simp, fun h => absurd h (by simp)⟩, by simp⟩
    have hin : Nonempty α := ⟨(hall 0 h0).choose⟩
    have : Inhabited α := ⟨Classical.choice hin⟩
    obtain ⟨f, hf⟩ := choose_lt hall
    refine ⟨(List.range len).map f, ⟨some a, cap, by simp, by simpa using hl, by simp, ?_, fun _ => ⟨a, rfl, fun j p hp => ?_⟩⟩, by simpa using hsz, fun x hx => ?_⟩
    · simp only [List.length_map, List.length_range]
      unfold maxLen at hm; omega
    · have hj : j < len := by
        have := (List.getElem?_eq_some_iff.1 hp).1
        simpa using this
      have hpf : p = f j := by
        rw [List.getElem?_map, List.getElem?_range hj] at hp
        exact (Option.some.inj hp).symm
      subst hpf
      obtain ⟨cs', h1, h2, _⟩ := hf j hj
      obtain ⟨_, hlen, hcell⟩ := World.cells?_some h1
      refine ⟨cs', by rw [hlen, hc], h2, fun i u hu => ?_⟩
      have hi' : i < P.cellsOf e := by
        have := (List.getElem?_eq_some_iff.1 hu).1
        omega
      rw [← Deep.add_add, ← hc, hcell i hi', hu]
    · obtain ⟨i, hi', rfl⟩ := List.mem_map.1 hx
      exact (hf i (List.mem_range.1 hi')).choose_spec.2.2
/-- An argument's value, its kind told. -/
theorem DecS.value {α : Type} {k : Kd α} {t : TypeId} {ok : α → Prop} (h : DecS enc P W k t ok) {v : Value} {d : DataW H} {p : List MemPlace} (hv : DataW.Trod enc P W 0 (fun _ => true) true t v d p) {ts : List TypeId} {ds : List (DataW H)} {j : Nat}
    (hsz : (DataW.weightsEach P ts ds).all (· ≤ reachBytes) = true) (hj : ts[j]? = some t) (hd : ds[j]? = some d) : ∃ a, k.K W a v.cells.toList ∧ ok a := by
  obtain ⟨fuel, hf⟩ := hv
  exact h _ _ _ hf (fun n hn => by simpa using List.all_eq_true.1 hsz _ (DataW.weights_mem_each hj hd n hn))
end Go.Proofs.YtfijlaahifeimaaDoor.Open
/- inputs: the statements' arguments, opened: telegrams of ticks, telegrams, bytes. -/
namespace Go.Proofs.YtfijlaahifeimaaDoor.PE
open Go.RowKit Go.Proofs.YtfijlaahifeimaaDoorW.PrintWords Go.Proofs.YtfijlaahifeimaaDoor.Open Go.ChangeShapes Go.WideShapes Go.ChangeAt
set_option linter.unusedVariables false
theorem bytes_of_wf {xs : List Int} (h : ∀ x ∈ xs, (Lit.int .u8 x).wf = true) : Bytes xs := by
  intro y hy
  have h2 := (Lit.wf_int_iff .u8 y).1 (h y hy)
  have e1 : IntKind.min .u8 = 0 := by decide
  have e2 : IntKind.max .u8 = 255 := by decide
  rw [e1, e2] at h2
  exact h2
def okB (xs : List Int) : Prop := xs.length * 1 ≤ reachBytes ∧ ∀ x ∈ xs, (Lit.int .u8 x).wf = true
def okL (l : List (List Int)) : Prop := l.length * 24 ≤ reachBytes ∧ ∀ x ∈ l, okB x
theorem decB {H : Type} {enc : TypeId × Value → H} {W : World} : DecS enc Tryd.prog W (Kd.slice 5 (Kd.int .u8)) 44 okB :=
  DecS.slice (t := 44) (e := 5) Tryd.underlying44 (by kernel_rfl) (by kernel_rfl) (DecS.of (Dec.int Tryd.underlying5))
theorem decL {H : Type} {enc : TypeId × Value → H} {W : World} : DecS enc Tryd.prog W (Kd.slice 44 (Kd.slice 5 (Kd.int .u8))) 30 okL :=
  DecS.slice (t := 30) (e := 44) Tryd.underlying30 (by kernel_rfl) (by kernel_rfl) decB
theorem dec3 {H : Type} {enc : TypeId × Value → H} {W : World} : DecS enc Tryd.prog W (Kd.slice 30 (Kd.slice 44 (Kd.slice 5 (Kd.int .u8)))) 22 (fun l => l.length * 24 ≤ reachBytes ∧ ∀ x ∈ l, okL x) :=
  DecS.slice (t := 22) (e := 30) Tryd.underlying22 (by kernel_rfl) (by kernel_rfl) decL
theorem okB.is {b : List Int} (h : okB b) : Bytes b ∧ b.length ≤ 140737488351232 := ⟨bytes_of_wf h.2, by have := h.1; unfold reachBytes at this; omega⟩
theorem okL.is {l : List (List Int)} (h : okL l) : l.length ≤ 140737488351232 ∧ BytesL l := ⟨by have := h.1; unfold reachBytes at this; omega, fun b hb => (h.2 b hb).is⟩
section
variable {H : Type} {enc : TypeId × Value → H} {W : World} {base : Nat} {v : Value} {d : DataW H} {p : List MemPlace} {ts : List TypeId} {ds : List (DataW H)} {j : Nat}
set_option maxRecDepth 100000 in
theorem openTele3 (hsz : (DataW.weightsEach Tryd.prog ts ds).all (· ≤ reachBytes) = true) (hj : ts[j]? = some 22) (hd : ds[j]? = some d) (hw : Value.okWide Tryd.prog W .any base 22 v) (h : DataW.Trod enc Tryd.prog W 0 (fun _ => true) true 22 v d p) :
    ∃ (l : List (List (List Int))) (A : Option Addr) (c : Nat), v = .slice A l.length c ∧ l.length ≤ c ∧ Small3 l ∧ Kd.C (Kd.slice 44 (Kd.slice 5 (Kd.int .u8))) W A l.length l := by
  obtain ⟨a, n, c, rfl⟩ := okWide_slice Tryd.underlying22 hw
  obtain ⟨l, hk, hok⟩ := dec3.value h hsz hj hd
  obtain ⟨A, c', e, hl, hC⟩ := hk
  have e2 : Value.slice a n c = .slice A l.length c' := by
    have e3 : [Value.slice a n c] = [.slice A l.length c'] := e
    injection e3
  rw [e2]
  exact ⟨l, A, c', rfl, hl, ⟨by have := hok.1; unfold reachBytes at this; omega, fun r hr => (hok.2 r hr).is⟩, hC⟩
set_option maxRecDepth 100000 in
theorem openTele2 (hsz : (DataW.weightsEach Tryd.prog ts ds).all (· ≤ reachBytes) = true) (hj : ts[j]? = some 30) (hd : ds[j]? = some d) (hw : Value.okWide Tryd.prog W .any base 30 v) (h : DataW.Trod enc Tryd.prog W 0 (fun _ => true) true 30 v d p) :
    ∃ (l : List (List Int)) (A : Option Addr) (c : Nat), v = .slice A l.length c ∧ l.length ≤ c ∧ (l.length ≤ 140737488351232 ∧ BytesL l) ∧ Kd.C (Kd.slice 5 (Kd.int .u8)) W A l.length l := by
  obtain ⟨a, n, c, rfl⟩ := okWide_slice Tryd.underlying30 hw
  obtain ⟨l, hk, hok⟩ := decL.value h hsz hj hd
  obtain ⟨A, c', e, hl, hC⟩ := hk
  have e2 : Value.slice a n c = .slice A l.length c' := by
    have e3 : [Value.slice a n c] = [.slice A l.length c'] := e
    injection e3
  rw [e2]
  exact ⟨l, A, c', rfl, hl, hok.is, hC⟩
set_option maxRecDepth 100000 in
theorem openTele1 (hsz : (DataW.weightsEach Tryd.prog ts ds).all (· ≤ reachBytes) = true) (hj : ts[j]? = some 44) (hd : ds[j]? = some d) (hw : Value.okWide Tryd.prog W .any base 44 v) (h : DataW.Trod enc Tryd.prog W 0 (fun _ => true) true 44 v d p) :
    ∃ (l : List Int) (A : Option Addr) (c : Nat), v = .slice A l.length c ∧ l.length ≤ c ∧ (Bytes l ∧ l.length ≤ 140737488351232) ∧ Kd.C (Kd.int .u8) W A l.length l := by
  obtain ⟨a, n, c, rfl⟩ := okWide_slice Tryd.underlying44 hw
  obtain ⟨l, hk, hok⟩ := decB.value h hsz hj hd
  obtain ⟨A, c', e, hl, hC⟩ := hk
  have e2 : Value.slice a n c = .slice A l.length c' := by
    have e3 : [Value.slice a n c] = [.slice A l.length c'] := e
    injection e3
  rw [e2]
  exact ⟨l, A, c', rfl, hl, hok.is, hC⟩
end
end Go.Proofs.YtfijlaahifeimaaDoor.PE
/- The listed variable: its cell out of the row's condition; a world that meets the condition. -/
namespace Go.Proofs.YtfijlaahifeimaaDoor.PE
open Go.ChangeShapes Go.WideShapes Go.RowKit
theorem own : ownKnob Tryd.prog.godebug = none := by kernel_rfl
theorem laidOut : laidOutB Tryd.prog = true := by kernel_rfl
theorem et : Tryd.prog.globalNamed "errors.errorType" = some 0 := by kernel_rfl
theorem rt : (Tryd.prog.cutTypes.find? (·.1 == "internal/reflectlite.rtype")).map (·.2) = some 129 := by kernel_rfl
theorem size : Tryd.prog.types.size = 177 := by kernel_rfl
theorem oneRow : ((List.range 177).filter fun t => Tryd.prog.rowNamed t [101, 114, 114, 111, 114]) = [42] := by kernel_rfl
theorem handle_of_laid {W : World} (h : laidMetH Tryd.prog [("errors.errorType", Rows.laid_errors_errorType)] W) : Gerr W := by
  have h' : laidMet Tryd.prog [] W ∧ handlesMet Tryd.prog [("errors.errorType", Rows.laid_errors_errorType)] W := h
  obtain ⟨name, u, ty, e1, e2, e3, e4, e5⟩ := h'.2 _ (List.mem_singleton.2 rfl)
  have en : name = [101, 114, 114, 111, 114] := (Option.some.inj e1).symm
  subst en
  obtain rfl := Option.some.inj (rt.symm.trans e2)
  have hm : ty ∈ (List.range 177).filter fun t => Tryd.prog.rowNamed t [101, 114, 114, 111, 114] := List.mem_filter.2 ⟨List.mem_range.2 (by rw [← size]; exact e3), e4⟩
  rw [oneRow] at hm
  obtain rfl := List.mem_singleton.1 hm
  have hh : typeHandle Tryd.prog 42 = .pointer (some ⟨1, 42, none⟩) := by kernel_rfl
  rw [hh] at e5
  have r := World.var?_cell et e5 0
  simpa [Gerr] using r
noncomputable def laidWorld (os : Os) : World :=
  let w0 := World.holding Tryd.prog os ⟨#[], #[], []⟩
  { w0 with heap := w0.heap.modify 0 fun
      | .cells _ t frozen => .cells #[.iface 129 (.agg #[.pointer (some ⟨1, 42, none⟩)])] t frozen
      | o => o }
theorem laidWorld_met (os : Os) (args : Array Value) : laidMetH Tryd.prog [("errors.errorType", Rows.laid_errors_errorType)] ((laidWorld os).forCall (fun _ _ => 0) ⟨#[], args, []⟩).memory :=
  laidMetH_of_parts (laidMet_nil _ _) (by kernel_rfl)
end Go.Proofs.YtfijlaahifeimaaDoor.PE
