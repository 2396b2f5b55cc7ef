/- The four listed variables: the handle and the table out of the row's condition; a world that meets the condition. -/
import Derived.Test.YtcheifegfigegaaDoorHRow
import Derived.Test.YtcheifegfigegaaDoorHItoa
import Derived.LaidSub
import Derived.SizedLaws
import Derived.Test.YtcheifegfigegaaDoorHOpenS
import Derived.Lib.LaidIn
namespace Go.Proofs.YtcheifegfigegaaDoor.PE
open Go.ChangeShapes Go.WideShapes Go.RowKit
theorem tabType : (Tryd.prog.globals[1]?).map (·.type) = some 93 := by kernel_rfl
theorem handle4 {W : World} (h : laidMetH Tryd.prog [("math/bits.deBruijn32tab", Rows.laid_math_bits_deBruijn32tab), ("math/bits.deBruijn64tab", Rows.laid_math_bits_deBruijn64tab), ("internal/strconv.uint64pow10", Rows.laid_internal_strconv_uint64pow10), ("errors.errorType", Rows.laid_errors_errorType)] W) : Gerr W :=
  handle_of_laid (laidMetH.filter (fun x => x.1 == "errors.errorType") h)
theorem tab4 {W : World} (h : laidMetH Tryd.prog [("math/bits.deBruijn32tab", Rows.laid_math_bits_deBruijn32tab), ("math/bits.deBruijn64tab", Rows.laid_math_bits_deBruijn64tab), ("internal/strconv.uint64pow10", Rows.laid_internal_strconv_uint64pow10), ("errors.errorType", Rows.laid_errors_errorType)] W) : Gtab W :=
  Go.Lib.tabIs_of_head tabg tabType Tryd.underlying93 Tryd.underlying85 (by kernel_rfl) (by kernel_rfl)
    (laidMet.filter (fun x => x.1 == "internal/strconv.uint64pow10") (laidMetH_iff.1 h).1)
noncomputable def laidWorld4 (os : Os) : World :=
  let w0 := World.holding Tryd.prog os ⟨#[], #[], []⟩
  let put (h : Array Obj) (g : Nat) (cs : Array Value) : Array Obj := h.modify g fun
    | .cells _ t frozen => .cells cs t frozen
    | o => o
  let h1 := put w0.heap 0 #[.iface 68 (.agg #[.pointer (some ⟨4, 26, none⟩)])]
  let h2 := put h1 1 #[.int .u64 1, .int .u64 10, .int .u64 100, .int .u64 1000, .int .u64 10000, .int .u64 100000, .int .u64 1000000, .int .u64 10000000, .int .u64 100000000, .int .u64 1000000000, .int .u64 10000000000, .int .u64 100000000000, .int .u64 1000000000000, .int .u64 10000000000000, .int .u64 100000000000000, .int .u64 1000000000000000, .int .u64 10000000000000000, .int .u64 100000000000000000, .int .u64 1000000000000000000, .int .u64 10000000000000000000]
  let h3 := put h2 2 #[.int .u8 0, .int .u8 1, .int .u8 28, .int .u8 2, .int .u8 29, .int .u8 14, .int .u8 24, .int .u8 3, .int .u8 30, .int .u8 22, .int .u8 20, .int .u8 15, .int .u8 25, .int .u8 17, .int .u8 4, .int .u8 8, .int .u8 31, .int .u8 27, .int .u8 13, .int .u8 23, .int .u8 21, .int .u8 19, .int .u8 16, .int .u8 7, .int .u8 26, .int .u8 12, .int .u8 18, .int .u8 6, .int .u8 11, .int .u8 5, .int .u8 10, .int .u8 9]
  let h4 := put h3 3 #[.int .u8 0, .int .u8 1, .int .u8 56, .int .u8 2, .int .u8 57, .int .u8 49, .int .u8 28, .int .u8 3, .int .u8 61, .int .u8 58, .int .u8 42, .int .u8 50, .int .u8 38, .int .u8 29, .int .u8 17, .int .u8 4, .int .u8 62, .int .u8 47, .int .u8 59, .int .u8 36, .int .u8 45, .int .u8 43, .int .u8 51, .int .u8 22, .int .u8 53, .int .u8 39, .int .u8 33, .int .u8 30, .int .u8 24, .int .u8 18, .int .u8 12, .int .u8 5, .int .u8 63, .int .u8 55, .int .u8 48, .int .u8 27, .int .u8 60, .int .u8 41, .int .u8 37, .int .u8 16, .int .u8 46, .int .u8 35, .int .u8 44, .int .u8 21, .int .u8 52, .int .u8 32, .int .u8 23, .int .u8 11, .int .u8 54, .int .u8 26, .int .u8 40, .int .u8 15, .int .u8 34, .int .u8 20, .int .u8 31, .int .u8 10, .int .u8 25, .int .u8 14, .int .u8 19, .int .u8 9, .int .u8 13, .int .u8 8, .int .u8 7, .int .u8 6]
  { w0 with heap := h4 }
theorem laidWorld4_met (os : Os) (args : Array Value) : laidMetH Tryd.prog [("math/bits.deBruijn32tab", Rows.laid_math_bits_deBruijn32tab), ("math/bits.deBruijn64tab", Rows.laid_math_bits_deBruijn64tab), ("internal/strconv.uint64pow10", Rows.laid_internal_strconv_uint64pow10), ("errors.errorType", Rows.laid_errors_errorType)] ((laidWorld4 os).forCall (fun _ _ => 0) ⟨#[], args, []⟩).memory :=
  laidMetH_of_parts ((LaidIn.of_run [2, 3, 1] 8 (by kernel_rfl) (by kernel_rfl) (by kernel_rfl) (by kernel_rfl)).met) (by kernel_rfl)
theorem weightsAll_mem {H : Type} {P : Program} {e : TypeId} {d : DataW H} {n : Nat} (hn : n ∈ d.weights P e) : ∀ {r : List (DataW H)}, d ∈ r → n ∈ DataW.weightsAll P e r
  | x :: r, h => by
    simp only [DataW.weightsAll, List.mem_append]
    rcases List.mem_cons.1 h with rfl | h
    · exact Or.inl hn
    · exact Or.inr (weightsAll_mem hn h)
open Go.Deep Go.Proofs.YtcheifegfigegaaDoorW.PrintWords in
theorem strs_sized {H : Type} {enc : TypeId × Value → H} {W : World} {A : Option Addr} {c : Nat} {l : List ByteArray} {d : DataW H} {p : List MemPlace} (h : DataW.Trod enc Tryd.prog W 0 (fun _ => true) true 22 (.slice A l.length c) d p) (hC : Kd.C Kd.string W A l.length l)
    (hwt : ∀ n ∈ d.weights Tryd.prog 22, n ≤ reachBytes) : ∀ s ∈ l, s.size ≤ reachBytes := by
  intro s hs
  obtain ⟨i, hi, rfl⟩ := List.getElem_of_mem hs
  obtain ⟨fuel, hf⟩ := h
  have hcl : (Value.slice A l.length c).cells.toList = [Value.slice A l.length c] := rfl
  rw [hcl] at hf
  rcases open_slice1 Tryd.underlying22 (by kernel_rfl) hf with ⟨h1, _⟩ | ⟨a, len, cap, m, n, V, D, Pl, h1, hb, hl, hm, hmm, hx, hcell⟩
  · injection h1 with h1
    injection h1 with h2 h3 h4
    omega
  · injection h1 with h1
    injection h1 with h2 h3 h4
    subst h2 h4
    obtain ⟨ad, ha, hc⟩ := str_at hC i hi
    obtain rfl := Option.some.inj ha
    have him : i < m := by rw [hmm]; split <;> omega
    obtain ⟨h5, h6⟩ := hcell i him
    rw [hc] at h5
    have hV := (Option.some.inj h5).symm
    rw [hV] at h6
    obtain ⟨s', e1, e2, e3⟩ := DataW.trod_string Tryd.underlying9 h6
    injection e1 with e1
    injection e1 with e1
    have hd : d = .slice ((List.range len).map D) ((List.range (m - len)).map fun j => D (len + j)) := congrArg Prod.fst hx
    have hDi : D i = .lit (.string s'.data.toList) := congrArg Prod.fst e2
    have hg : l.getD i ⟨#[]⟩ = l[i] := by rw [List.getD_eq_getElem?_getD, List.getElem?_eq_getElem hi]; rfl
    have hmem : D i ∈ (List.range len).map D := List.mem_map.2 ⟨i, List.mem_range.2 (by omega), rfl⟩
    have hw : l[i].size ∈ (D i).weights Tryd.prog 9 := by
      rw [hDi, ← e1, hg]
      simp [DataW.weights]
    refine hwt _ ?_
    rw [hd]
    simp only [DataW.weights, Tryd.underlying22, List.mem_cons, List.mem_append]
    exact Or.inr (Or.inl (weightsAll_mem hw hmem))
end Go.Proofs.YtcheifegfigegaaDoor.PE
