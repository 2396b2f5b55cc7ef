/- frame: FrameApart's walk. -/
import Derived.Test.YtnigocoanlaiiaaDoorHMay
import Derived.Deep.RegionHeld3
import Derived.Lib.Bytes
namespace Go.Proofs.YtnigocoanlaiiaaDoor.PE
open Go.RowKit Go.Extern.Stop Go.Stop Go.Extern Go.Proofs.YtnigocoanlaiiaaDoorW.PrintWords Go.Proofs.YtnigocoanlaiiaaDoorW.PrintLast Go.Proofs.YtnigocoanlaiiaaDoorW.PrintMore
set_option linter.unusedVariables false
set_option linter.unusedSimpArgs false
theorem str_inj : ∀ {l m : List Int}, Bytes l → Bytes m → strOfNums l = strOfNums m → l = m := by
  intro l m hl hm h
  have h2 : l.map (fun n => UInt8.ofNat n.toNat) = m.map (fun n => UInt8.ofNat n.toNat) := by
    rw [← strOfNums_data, ← strOfNums_data, h]
  clear h
  induction l generalizing m with
  | nil => cases m with
    | nil => rfl
    | cons y m => simp at h2
  | cons x l ih => cases m with
    | nil => simp at h2
    | cons y m =>
      simp only [List.map_cons, List.cons.injEq] at h2
      have hx := hl x (by simp)
      have hy := hm y (by simp)
      have e : x = y := by
        have h3 := congrArg UInt8.toNat h2.1
        simp only [UInt8.toNat_ofNat'] at h3
        omega
      rw [e, ih (fun z hz => hl z (by simp [hz])) (fun z hz => hm z (by simp [hz])) h2.2]
theorem str_eq {l m : List Int} (hl : Bytes l) (hm : Bytes m) : ((strOfNums l).toList == (strOfNums m).toList) = decide (l = m) := by
  by_cases h : l = m
  · subst h; rw [decide_eq_true rfl]; simp
  · rw [decide_eq_false h]
    apply beq_eq_false_iff_ne.2
    intro h2
    apply h
    apply str_inj hl hm
    have h3 : (strOfNums l).data.toList = (strOfNums m).data.toList := by
      rw [Lib.strOfNums_toList, Lib.strOfNums_toList] at h2
      exact h2
    have h4 : (strOfNums l).data = (strOfNums m).data := Array.toList_inj.1 h3
    calc strOfNums l = ⟨(strOfNums l).data⟩ := rfl
      _ = ⟨(strOfNums m).data⟩ := by rw [h4]
      _ = strOfNums m := rfl
theorem bytes_enc {ch sq : Int} {xs : List Int} (h : Bytes xs) (ha : ¬ argF ch sq xs.length) : Bytes (encL ch sq xs) := by
  unfold argF at ha
  apply bytes_seal
  intro y hy
  simp at hy
  rcases hy with rfl | rfl | rfl | hy
  · omega
  · omega
  · omega
  · exact h y hy
theorem enc_inj {ch sq ch' sq' : Int} {xs xs' : List Int} (h : encL ch sq xs = encL ch' sq' xs') : ch = ch' ∧ sq = sq' ∧ xs = xs' := by
  have hl : (encL ch sq xs).length = (encL ch' sq' xs').length := by rw [h]
  rw [encL_len, encL_len] at hl
  unfold encL sealL at h
  have h2 := (List.append_inj h (by simp; omega)).1
  simp at h2
  exact ⟨h2.1, h2.2.1, h2.2.2.2⟩
open PFrameCodes in
theorem Same_calls (ch sq : Int) (A : Option Addr) (c : Nat) (xs : List Int) (ch' sq' : Int) (A' : Option Addr) (c' : Nat) (xs' : List Int) (w : World) (hA : Kd.C (Kd.int .u8) w A xs.length xs) (hc : xs.length ≤ c) (hA' : Kd.C (Kd.int .u8) w A' xs'.length xs') (hc' : xs'.length ≤ c') (hb : Bytes xs) (hb' : Bytes xs') :
    Calls Tryd.prog 15 #[.agg #[.int .i64 ch, .int .i64 sq, .slice A xs.length c], .agg #[.int .i64 ch', .int .i64 sq', .slice A' xs'.length c']] w fun e w' => e = .returned (.bool (decide (ch = ch' ∧ sq = sq' ∧ xs = xs'))) ∧ Below w.heap.size w w' := by
  refine crossbuckref06_Same.calls ch sq A c xs ch' sq' A' c' xs' _ w hA hc hA' hc' ?_
  unfold crossbuckref06_Same.f
  by_cases h1 : ch = ch'
  · rw [if_pos h1]
    by_cases h2 : sq = sq'
    · rw [if_pos h2, str_eq hb hb']
      by_cases h3 : xs = xs'
      · rw [decide_eq_true h3, decide_eq_true ⟨h1, h2, h3⟩]
      · rw [decide_eq_false h3, decide_eq_false (fun h => h3 h.2.2)]
    · rw [if_neg h2, decide_eq_false (fun h => h2 h.2.1)]
  · rw [if_neg h1, decide_eq_false (fun h => h1 h.1)]
set_option maxHeartbeats 16000000 in
set_option maxRecDepth 100000 in
theorem fapart_calls (ch sq : Int) (xs : List Int) (A : Option Addr) (c : Nat) (ch' sq' : Int) (xs' : List Int) (A' : Option Addr) (c' : Nat) (w : World) (hC : Kd.C (Kd.int .u8) w A xs.length xs) (hcc : xs.length ≤ c) (hB : Bytes xs) (hC' : Kd.C (Kd.int .u8) w A' xs'.length xs') (hcc' : xs'.length ≤ c') (hB' : Bytes xs') (hg : Gerr w) : Calls Tryd.prog 8 #[.agg #[.int .i64 ch, .int .i64 sq, .slice A xs.length c], .agg #[.int .i64 ch', .int .i64 sq', .slice A' xs'.length c']] w fun e w' => e = .returned (.bool true) ∧ Below w.heap.size w w' := by
  have B00 := below_alloc (Below.refl w.heap.size w) (.cells #[.int .i64 ch, .int .i64 sq, .slice A xs.length c] 24)
  have B0 : Aside0 (Below w.heap.size w ((w.alloc (.cells #[.int .i64 ch, .int .i64 sq, .slice A xs.length c] 24)).alloc (.cells #[.int .i64 ch', .int .i64 sq', .slice A' xs'.length c'] 24))) := ⟨below_alloc B00 _⟩
  have HX0 := Aside0.mk (heap_below (balloc ⟨Below.refl _ _⟩ (.cells #[.int .i64 ch', .int .i64 sq', .slice A' xs'.length c'] 24)) (heap_new w (.cells #[.int .i64 ch, .int .i64 sq, .slice A xs.length c] 24)))
  have HY0 : Aside0 (((w.alloc (.cells #[.int .i64 ch, .int .i64 sq, .slice A xs.length c] 24)).alloc (.cells #[.int .i64 ch', .int .i64 sq', .slice A' xs'.length c'] 24)).heap[w.heap.size + 1]? = some (.cells #[.int .i64 ch', .int .i64 sq', .slice A' xs'.length c'] 24 (0, 0))) := ⟨by simpa using heap_new (w.alloc (.cells #[.int .i64 ch, .int .i64 sq, .slice A xs.length c] 24)) (.cells #[.int .i64 ch', .int .i64 sq', .slice A' xs'.length c'] 24)⟩
  have HG := Aside0.mk (hg.below B0)
  have HC := Aside0.mk hC
  have HC' := Aside0.mk hC'
  have HB := Aside0.mk hB
  have HB' := Aside0.mk hB'
  clear hg hC hC' B00 hB hB'
  obtain ⟨W0, hW⟩ : ∃ W0, W0 = ((w.alloc (.cells #[.int .i64 ch, .int .i64 sq, .slice A xs.length c] 24)).alloc (.cells #[.int .i64 ch', .int .i64 sq', .slice A' xs'.length c'] 24)) := ⟨_, rfl⟩
  rw [← hW] at B0 HX0 HY0 HG
  by_cases h3 : 300 < (xs.length : Int)
  · have dh3 : decide (300 < (xs.length : Int)) = true := decide_eq_true h3
    go_enter Tryd.func8, Tryd.ntmps8
    go_upto_region 1 with fail
    rw [← hW]
    clear hW
    go_wp2_with fail
    refine (small_calls _ HG.out).mono ?_
    rintro e w1 ⟨rfl, hb⟩
    have B1 := Aside0.mk (below_thenB B0.out hb B0.out.size)
    have HX1 := Aside0.mk (heap_below ⟨hb⟩ HX0.out)
    have HY1 := Aside0.mk (heap_below ⟨hb⟩ HY0.out)
    have q0 : World.cell? w1 ⟨w.heap.size, 0, none⟩ = some (.int .i64 ch) := cell_of_heap HX1.out 0
    have q1 : World.cell? w1 ⟨w.heap.size, 1, none⟩ = some (.int .i64 sq) := cell_of_heap HX1.out 1
    have q2 : World.cell? w1 ⟨w.heap.size, 2, none⟩ = some (.slice A xs.length c) := cell_of_heap HX1.out 2
    have p2 : World.cell? w1 ⟨w.heap.size + 1, 2, none⟩ = some (.slice A' xs'.length c') := cell_of_heap HY1.out 2
    clear hb
    go_wp2_with fail
    go_ret
    exact ⟨rfl, B1.out⟩
  have dh3 : decide (300 < (xs.length : Int)) = false := decide_eq_false h3
  by_cases h4 : 300 < (xs'.length : Int)
  · have dh4 : decide (300 < (xs'.length : Int)) = true := decide_eq_true h4
    go_enter Tryd.func8, Tryd.ntmps8
    go_upto_region 1 with fail
    rw [← hW]
    clear hW
    go_wp2_with fail
    refine (small_calls _ HG.out).mono ?_
    rintro e w1 ⟨rfl, hb⟩
    have B1 := Aside0.mk (below_thenB B0.out hb B0.out.size)
    have HX1 := Aside0.mk (heap_below ⟨hb⟩ HX0.out)
    have HY1 := Aside0.mk (heap_below ⟨hb⟩ HY0.out)
    have q0 : World.cell? w1 ⟨w.heap.size, 0, none⟩ = some (.int .i64 ch) := cell_of_heap HX1.out 0
    have q1 : World.cell? w1 ⟨w.heap.size, 1, none⟩ = some (.int .i64 sq) := cell_of_heap HX1.out 1
    have q2 : World.cell? w1 ⟨w.heap.size, 2, none⟩ = some (.slice A xs.length c) := cell_of_heap HX1.out 2
    have p2 : World.cell? w1 ⟨w.heap.size + 1, 2, none⟩ = some (.slice A' xs'.length c') := cell_of_heap HY1.out 2
    clear hb
    go_wp2_with fail
    go_ret
    exact ⟨rfl, B1.out⟩
  have dh4 : decide (300 < (xs'.length : Int)) = false := decide_eq_false h4
  have hx3 : xs.length ≤ 300 := by omega
  have hx4 : xs'.length ≤ 300 := by omega
  go_enter Tryd.func8, Tryd.ntmps8
  go_upto_region 1 with fail
  rw [← hW]
  clear hW
  go_wp2_with fail
  refine (small_calls _ HG.out).mono ?_
  rintro e w1 ⟨rfl, hb⟩
  have B1 := Aside0.mk (below_thenB B0.out hb B0.out.size)
  have HX1 := Aside0.mk (heap_below ⟨hb⟩ HX0.out)
  have HY1 := Aside0.mk (heap_below ⟨hb⟩ HY0.out)
  have q0 : World.cell? w1 ⟨w.heap.size, 0, none⟩ = some (.int .i64 ch) := cell_of_heap HX1.out 0
  have q1 : World.cell? w1 ⟨w.heap.size, 1, none⟩ = some (.int .i64 sq) := cell_of_heap HX1.out 1
  have q2 : World.cell? w1 ⟨w.heap.size, 2, none⟩ = some (.slice A xs.length c) := cell_of_heap HX1.out 2
  have p2 : World.cell? w1 ⟨w.heap.size + 1, 2, none⟩ = some (.slice A' xs'.length c') := cell_of_heap HY1.out 2
  clear hb
  go_wp2_with fail
  clear q0 q1 q2 p2
  refine (Encode_calls ch sq A c xs w1 (Kd.C_below HC.out B1.out) hcc hx3).mono ?_
  rintro e w2 ⟨v2, e2, rfl, hE, hR, hb⟩
  have B2 := Aside0.mk (below_thenB B1.out hb B1.out.size)
  have HX2 := Aside0.mk (heap_below ⟨hb⟩ HX1.out)
  have HY2 := Aside0.mk (heap_below ⟨hb⟩ HY1.out)
  obtain ⟨A2, c2, rfl, -, hC2⟩ := Kd.R_reads hR
  have C2 := Aside0.mk hC2
  have E2 := Aside0.mk hE
  clear hb hE hR hC2
  have p0 : World.cell? w2 ⟨w.heap.size + 1, 0, none⟩ = some (.int .i64 ch') := cell_of_heap HY2.out 0
  have p1 : World.cell? w2 ⟨w.heap.size + 1, 1, none⟩ = some (.int .i64 sq') := cell_of_heap HY2.out 1
  have p2 : World.cell? w2 ⟨w.heap.size + 1, 2, none⟩ = some (.slice A' xs'.length c') := cell_of_heap HY2.out 2
  generalize hm2 : (encB ch sq xs).length = m2 at C2
  have HM2 := Aside0.mk hm2
  clear hm2
  have hgen : True := trivial
  go_wp2_with fail
  clear p0 p1 p2
  refine (Encode_calls ch' sq' A' c' xs' w2 (Kd.C_below HC'.out B2.out) hcc' hx4).mono ?_
  rintro e w3 ⟨v3, e3, rfl, hE, hR, hb⟩
  have B3 := Aside0.mk (below_thenB B2.out hb B2.out.size)
  have HX3 := Aside0.mk (heap_below ⟨hb⟩ HX2.out)
  have HY3 := Aside0.mk (heap_below ⟨hb⟩ HY2.out)
  obtain ⟨A3, c3, rfl, -, hC3⟩ := Kd.R_reads hR
  have C3 := Aside0.mk hC3
  have C2' := Aside0.mk (Kd.C_below C2.out hb)
  have E3 := Aside0.mk hE
  clear hb hE hR hC3 C2
  generalize hm3 : (encB ch' sq' xs').length = m3 at C3 ⊢
  have HM3 := Aside0.mk hm3
  clear hm3
  have q0 : World.cell? w3 ⟨w.heap.size, 0, none⟩ = some (.int .i64 ch) := cell_of_heap HX3.out 0
  have q1 : World.cell? w3 ⟨w.heap.size, 1, none⟩ = some (.int .i64 sq) := cell_of_heap HX3.out 1
  have q2 : World.cell? w3 ⟨w.heap.size, 2, none⟩ = some (.slice A xs.length c) := cell_of_heap HX3.out 2
  have p0 : World.cell? w3 ⟨w.heap.size + 1, 0, none⟩ = some (.int .i64 ch') := cell_of_heap HY3.out 0
  have p1 : World.cell? w3 ⟨w.heap.size + 1, 1, none⟩ = some (.int .i64 sq') := cell_of_heap HY3.out 1
  have p2 : World.cell? w3 ⟨w.heap.size + 1, 2, none⟩ = some (.slice A' xs'.length c') := cell_of_heap HY3.out 2
  by_cases ha : argF ch sq xs.length
  · have h1 : encE ch sq xs.length = 1 := if_pos ha
    have hP := E2.out
    rw [h1] at hP
    obtain ⟨ty, y, rfl⟩ := (hP.err (by decide)).iface
    clear hP h1 ha E2 E3 q0 q1 q2 p0 p1 p2
    go_upto_region 6 with fail
    go_quiet (fail)
    go_wp2_with fail
    go_ret
    exact ⟨rfl, pw_below_drewN B3.out _⟩
  have h1 : encE ch sq xs.length = 0 ∧ encB ch sq xs = encL ch sq xs := ⟨if_neg ha, if_neg ha⟩
  have hP := E2.out
  rw [h1.1] at hP
  have := hP.nil; subst this
  by_cases hb : argF ch' sq' xs'.length
  · have h2 : encE ch' sq' xs'.length = 1 := if_pos hb
    have hP := E3.out
    rw [h2] at hP
    obtain ⟨ty, y, rfl⟩ := (hP.err (by decide)).iface
    clear hP h2 hb ha h1 E2 E3 q0 q1 q2 p0 p1 p2
    go_upto_region 6 with fail
    go_quiet (fail)
    go_wp2_with fail
    go_ret
    exact ⟨rfl, pw_below_drewN B3.out _⟩
  have h2 : encE ch' sq' xs'.length = 0 ∧ encB ch' sq' xs' = encL ch' sq' xs' := ⟨if_neg hb, if_neg hb⟩
  have hQ := E3.out
  rw [h2.1] at hQ
  have := hQ.nil; subst this
  have HEQ := Aside0.mk (show ((strOfNums (encB ch sq xs)).toList == (strOfNums (encB ch' sq' xs')).toList) = decide (ch = ch' ∧ sq = sq' ∧ xs = xs') by
    rw [h1.2, h2.2, str_eq (bytes_enc HB.out ha) (bytes_enc HB'.out hb)]
    by_cases h : ch = ch' ∧ sq = sq' ∧ xs = xs'
    · rw [decide_eq_true h, decide_eq_true (by rw [h.1, h.2.1, h.2.2])]
    · rw [decide_eq_false h, decide_eq_false (fun x => h (enc_inj x))])
  have HM2' := HM2.out
  have HM3' := HM3.out
  have C2n : Aside0 (Kd.C (Kd.int .u8) w3 A2 (encB ch sq xs).length (encB ch sq xs)) := ⟨by rw [HM2']; exact C2'.out⟩
  have C3n : Aside0 (Kd.C (Kd.int .u8) w3 A3 (encB ch' sq' xs').length (encB ch' sq' xs')) := ⟨by rw [HM3']; exact C3.out⟩
  rw [HM2'] at C2n
  rw [HM3'] at C3n
  generalize encB ch sq xs = X at HEQ C2n
  generalize encB ch' sq' xs' = Y at HEQ C3n
  clear hP hQ h1 h2 ha hb E2 E3 HM2 HM3 HM2' HM3' C2' C3
  go_upto_region 6 with fail
  have HSK : Aside0 (∀ W, Below w3.heap.size w3 W → ((fun W => (convert 22 9 (.slice A2 m2 c2)).run Tryd.prog W = .ok (.string (strOfNums X)) W ∧ (convert 22 9 (.slice A3 m3 c3)).run Tryd.prog W = .ok (.string (strOfNums Y)) W ∧ W.cell? ⟨w.heap.size, 0, none⟩ = some (.int .i64 ch) ∧ W.cell? ⟨w.heap.size, 1, none⟩ = some (.int .i64 sq) ∧ W.cell? ⟨w.heap.size, 2, none⟩ = some (.slice A xs.length c) ∧ W.cell? ⟨w.heap.size + 1, 0, none⟩ = some (.int .i64 ch') ∧ W.cell? ⟨w.heap.size + 1, 1, none⟩ = some (.int .i64 sq') ∧ W.cell? ⟨w.heap.size + 1, 2, none⟩ = some (.slice A' xs'.length c')) : World → Prop) W) := ⟨fun W hW => ⟨Kd.C_string (P := Tryd.prog) (src := 22) (dst := 9) (e := 5) (c := c2) Tryd.underlying22 Tryd.underlying5 Tryd.underlying9 (Kd.C_below C2n.out hW), Kd.C_string (P := Tryd.prog) (src := 22) (dst := 9) (e := 5) (c := c3) Tryd.underlying22 Tryd.underlying5 Tryd.underlying9 (Kd.C_below C3n.out hW), pw_cell_below hW q0, pw_cell_below hW q1, pw_cell_below hW q2, pw_cell_below hW p0, pw_cell_below hW p1, pw_cell_below hW p2⟩⟩
  refine wp_region_held_drew (S := (fun W => (convert 22 9 (.slice A2 m2 c2)).run Tryd.prog W = .ok (.string (strOfNums X)) W ∧ (convert 22 9 (.slice A3 m3 c3)).run Tryd.prog W = .ok (.string (strOfNums Y)) W ∧ W.cell? ⟨w.heap.size, 0, none⟩ = some (.int .i64 ch) ∧ W.cell? ⟨w.heap.size, 1, none⟩ = some (.int .i64 sq) ∧ W.cell? ⟨w.heap.size, 2, none⟩ = some (.slice A xs.length c) ∧ W.cell? ⟨w.heap.size + 1, 0, none⟩ = some (.int .i64 ch') ∧ W.cell? ⟨w.heap.size + 1, 1, none⟩ = some (.int .i64 sq') ∧ W.cell? ⟨w.heap.size + 1, 2, none⟩ = some (.slice A' xs'.length c'))) (by kernel_rfl) ?_ (fun hHeld => ?_)
  · exact HSK.out _ (below_drew (Below.refl _ _))
  refine wpAnyH_take (i := 0) (oi := { dst := some 32, op := Go.Op.move (Go.Operand.tmp 5), type := 4, pos := "law.go:109", after := #[], guard := none }) (v := ?vz0) rfl (by kernel_rfl) (by kernel_rfl) (by kernel_rfl) (fun _ _ _ h => h) (Or.inl ⟨by rfl, ?yz0⟩) (by assumption) ?rz0
  case yz0 => ((intro w hSw; (try dsimp only at hSw); go_simp) <;> with_reducible rfl)
  try simp only [Act.put, List.setIfInBounds_toArray, List.set_cons_zero, List.set_cons_succ]
  refine wpAnyH_take (i := 1) (oi := { dst := some 33, op := Go.Op.move (Go.Operand.tmp 32), type := 4, pos := "law.go:109", after := #[{ on := 0, ground := Go.Ground.data }], guard := none }) (v := ?vz1) rfl (by kernel_rfl) (by kernel_rfl) (by kernel_rfl) (fun _ _ _ h => h) (Or.inl ⟨by rfl, ?yz1⟩) (by assumption) ?rz1
  case yz1 => ((intro w hSw; (try dsimp only at hSw); go_simp) <;> with_reducible rfl)
  try simp only [Act.put, List.setIfInBounds_toArray, List.set_cons_zero, List.set_cons_succ]
  refine wpAnyH_take (i := 2) (oi := { dst := some 34, op := Go.Op.move (Go.Operand.tmp 7), type := 27, pos := "law.go:109", after := #[{ on := 1, ground := Go.Ground.guard }], guard := some (1, true) }) (v := ?vz2) rfl (by kernel_rfl) (by kernel_rfl) (by kernel_rfl) (fun _ _ _ h => h) (Or.inl ⟨by rfl, ?yz2⟩) (by assumption) ?rz2
  case yz2 => ((intro w hSw; (try dsimp only at hSw); go_simp) <;> with_reducible rfl)
  try simp only [Act.put, List.setIfInBounds_toArray, List.set_cons_zero, List.set_cons_succ]
  refine wpAnyH_take (i := 3) (oi := { dst := some 35, op := Go.Op.binOp Go.BinOp.neq 27 (Go.Operand.tmp 34) (Go.Operand.const Go.Value.nilIface) 27, type := 4, pos := "law.go:109", after := #[{ on := 2, ground := Go.Ground.data }, { on := 1, ground := Go.Ground.guard }], guard := some (1, true) }) (v := ?vz3) rfl (by kernel_rfl) (by kernel_rfl) (by kernel_rfl) (fun _ _ _ h => h) (Or.inl ⟨by rfl, ?yz3⟩) (by assumption) ?rz3
  case yz3 => ((intro w hSw; (try dsimp only at hSw); go_simp) <;> with_reducible rfl)
  try simp only [Act.put, List.setIfInBounds_toArray, List.set_cons_zero, List.set_cons_succ]
  refine wpAnyH_take (i := 4) (oi := { dst := some 36, op := Go.Op.move (Go.Operand.tmp 35), type := 4, pos := "law.go:109", after := #[{ on := 3, ground := Go.Ground.data }, { on := 1, ground := Go.Ground.chain }, { on := 1, ground := Go.Ground.guard }], guard := some (1, true) }) (v := ?vz4) rfl (by kernel_rfl) (by kernel_rfl) (by kernel_rfl) (fun _ _ _ h => h) (Or.inl ⟨by rfl, ?yz4⟩) (by assumption) ?rz4
  case yz4 => ((intro w hSw; (try dsimp only at hSw); go_simp) <;> with_reducible rfl)
  try simp only [Act.put, List.setIfInBounds_toArray, List.set_cons_zero, List.set_cons_succ]
  refine wpAnyH_take (i := 5) (oi := { dst := some 37, op := Go.Op.move (Go.Operand.tmp 9), type := 27, pos := "law.go:109", after := #[{ on := 4, ground := Go.Ground.guard }], guard := some (4, false) }) (v := ?vz5) rfl (by kernel_rfl) (by kernel_rfl) (by kernel_rfl) (fun _ _ _ h => h) (Or.inl ⟨by rfl, ?yz5⟩) (by assumption) ?rz5
  case yz5 => ((intro w hSw; (try dsimp only at hSw); go_simp) <;> with_reducible rfl)
  try simp only [Act.put, List.setIfInBounds_toArray, List.set_cons_zero, List.set_cons_succ]
  refine wpAnyH_take (i := 6) (oi := { dst := some 38, op := Go.Op.binOp Go.BinOp.neq 27 (Go.Operand.tmp 37) (Go.Operand.const Go.Value.nilIface) 27, type := 4, pos := "law.go:109", after := #[{ on := 5, ground := Go.Ground.data }, { on := 4, ground := Go.Ground.guard }], guard := some (4, false) }) (v := ?vz6) rfl (by kernel_rfl) (by kernel_rfl) (by kernel_rfl) (fun _ _ _ h => h) (Or.inl ⟨by rfl, ?yz6⟩) (by assumption) ?rz6
  case yz6 => ((intro w hSw; (try dsimp only at hSw); go_simp) <;> with_reducible rfl)
  try simp only [Act.put, List.setIfInBounds_toArray, List.set_cons_zero, List.set_cons_succ]
  refine wpAnyH_take (i := 7) (oi := { dst := some 39, op := Go.Op.pick (Go.Operand.tmp 36) (Go.Operand.const (Go.Value.bool true)) (Go.Operand.tmp 38), type := 4, pos := "law.go:109", after := #[{ on := 4, ground := Go.Ground.data }, { on := 6, ground := Go.Ground.data }, { on := 1, ground := Go.Ground.guard }], guard := some (1, true) }) (v := ?vz7) rfl (by kernel_rfl) (by kernel_rfl) (by kernel_rfl) (fun _ _ _ h => h) (Or.inl ⟨by rfl, ?yz7⟩) (by assumption) ?rz7
  case yz7 => ((intro w hSw; (try dsimp only at hSw); go_simp) <;> with_reducible rfl)
  try simp only [Act.put, List.setIfInBounds_toArray, List.set_cons_zero, List.set_cons_succ]
  refine wpAnyH_take (i := 8) (oi := { dst := some 40, op := Go.Op.move (Go.Operand.tmp 39), type := 4, pos := "law.go:109", after := #[{ on := 7, ground := Go.Ground.data }, { on := 4, ground := Go.Ground.chain }, { on := 1, ground := Go.Ground.guard }], guard := some (1, true) }) (v := ?vz8) rfl (by kernel_rfl) (by kernel_rfl) (by kernel_rfl) (fun _ _ _ h => h) (Or.inl ⟨by rfl, ?yz8⟩) (by assumption) ?rz8
  case yz8 => ((intro w hSw; (try dsimp only at hSw); go_simp) <;> with_reducible rfl)
  try simp only [Act.put, List.setIfInBounds_toArray, List.set_cons_zero, List.set_cons_succ]
  refine wpAnyH_take (i := 9) (oi := { dst := some 41, op := Go.Op.move (Go.Operand.tmp 6), type := 22, pos := "law.go:109", after := #[{ on := 8, ground := Go.Ground.guard }], guard := some (8, false) }) (v := ?vz9) rfl (by kernel_rfl) (by kernel_rfl) (by kernel_rfl) (fun _ _ _ h => h) (Or.inl ⟨by rfl, ?yz9⟩) (by assumption) ?rz9
  case yz9 => ((intro w hSw; (try dsimp only at hSw); go_simp) <;> with_reducible rfl)
  try simp only [Act.put, List.setIfInBounds_toArray, List.set_cons_zero, List.set_cons_succ]
  refine wpAnyH_take (i := 10) (oi := { dst := some 42, op := Go.Op.convert 22 9 (Go.Operand.tmp 41), type := 9, pos := "law.go:109", after := #[{ on := 9, ground := Go.Ground.data }, { on := 8, ground := Go.Ground.guard }], guard := some (8, false) }) (v := ?vz10) rfl (by kernel_rfl) (by kernel_rfl) (by kernel_rfl) (fun _ _ _ h => h) (Or.inl ⟨by rfl, ?yz10⟩) (by assumption) ?rz10
  case yz10 => ((intro w hSw; (try dsimp only at hSw); go_simp) <;> with_reducible rfl)
  try simp only [Act.put, List.setIfInBounds_toArray, List.set_cons_zero, List.set_cons_succ]
  refine wpAnyH_take (i := 11) (oi := { dst := some 43, op := Go.Op.move (Go.Operand.tmp 8), type := 22, pos := "law.go:109", after := #[{ on := 8, ground := Go.Ground.guard }], guard := some (8, false) }) (v := ?vz11) rfl (by kernel_rfl) (by kernel_rfl) (by kernel_rfl) (fun _ _ _ h => h) (Or.inl ⟨by rfl, ?yz11⟩) (by assumption) ?rz11
  case yz11 => ((intro w hSw; (try dsimp only at hSw); go_simp) <;> with_reducible rfl)
  try simp only [Act.put, List.setIfInBounds_toArray, List.set_cons_zero, List.set_cons_succ]
  refine wpAnyH_take (i := 12) (oi := { dst := some 44, op := Go.Op.convert 22 9 (Go.Operand.tmp 43), type := 9, pos := "law.go:109", after := #[{ on := 11, ground := Go.Ground.data }, { on := 8, ground := Go.Ground.guard }], guard := some (8, false) }) (v := ?vz12) rfl (by kernel_rfl) (by kernel_rfl) (by kernel_rfl) (fun _ _ _ h => h) (Or.inl ⟨by rfl, ?yz12⟩) (by assumption) ?rz12
  case yz12 => ((intro w hSw; (try dsimp only at hSw); go_simp) <;> with_reducible rfl)
  try simp only [Act.put, List.setIfInBounds_toArray, List.set_cons_zero, List.set_cons_succ]
  refine wpAnyH_take (i := 13) (oi := { dst := some 45, op := Go.Op.binOp Go.BinOp.eql 9 (Go.Operand.tmp 42) (Go.Operand.tmp 44) 9, type := 4, pos := "law.go:109", after := #[{ on := 10, ground := Go.Ground.data }, { on := 12, ground := Go.Ground.data }, { on := 8, ground := Go.Ground.guard }], guard := some (8, false) }) (v := ?vz13) rfl (by kernel_rfl) (by kernel_rfl) (by kernel_rfl) (fun _ _ _ h => h) (Or.inl ⟨by rfl, ?yz13⟩) (by assumption) ?rz13
  case yz13 => ((intro w hSw; (try dsimp only at hSw); go_simp) <;> with_reducible rfl)
  try simp only [Act.put, List.setIfInBounds_toArray, List.set_cons_zero, List.set_cons_succ]
  refine wpAnyH_take (i := 14) (oi := { dst := some 46, op := Go.Op.load 24 (Go.Operand.tmp 2), type := 24, pos := "law.go:109", after := #[{ on := 8, ground := Go.Ground.guard }], guard := some (8, false) }) (v := ?vz14) rfl (by kernel_rfl) (by kernel_rfl) (by kernel_rfl) (fun _ _ _ h => h) (Or.inl ⟨by rfl, ?yz14⟩) (by assumption) ?rz14
  case yz14 => ((intro w hSw; (try dsimp only at hSw); go_simp) <;> with_reducible rfl)
  try simp only [Act.put, List.setIfInBounds_toArray, List.set_cons_zero, List.set_cons_succ]
  refine wpAnyH_take (i := 15) (oi := { dst := some 47, op := Go.Op.load 24 (Go.Operand.tmp 3), type := 24, pos := "law.go:109", after := #[{ on := 8, ground := Go.Ground.guard }], guard := some (8, false) }) (v := ?vz15) rfl (by kernel_rfl) (by kernel_rfl) (by kernel_rfl) (fun _ _ _ h => h) (Or.inl ⟨by rfl, ?yz15⟩) (by assumption) ?rz15
  case yz15 => ((intro w hSw; (try dsimp only at hSw); go_simp) <;> with_reducible rfl)
  try simp only [Act.put, List.setIfInBounds_toArray, List.set_cons_zero, List.set_cons_succ]
  refine wpAnyH_ready (rs := [16]) (by kernel_rfl) (by simp) ?_
  refine AllReadyH.cons (o := { dst := some 48, op := Go.Op.call { callee := Go.Callee.value (Go.Operand.func 15), args := #[Go.Operand.tmp 46, Go.Operand.tmp 47], argTypes := #[24, 24] }, type := 4, pos := "law.go:109", after := #[{ on := 14, ground := Go.Ground.data }, { on := 15, ground := Go.Ground.data }, { on := 8, ground := Go.Ground.chain }, { on := 8, ground := Go.Ground.guard }], guard := some (8, false) }) rfl (fun K hK => ?kz16) AllReadyH.nil
  go_simp
  refine (Same_calls ch sq A c xs ch' sq' A' c' xs' w3.drew (Kd.C_drew (Kd.C_below HC.out B3.out)) hcc (Kd.C_drew (Kd.C_below HC'.out B3.out)) hcc' HB.out HB'.out).mono ?_
  rintro e w4 ⟨rfl, hb⟩
  have D4 := Aside0.mk (below_thenB (below_drew (Below.refl w3.heap.size w3)) hb (by simp))
  clear hb
  refine hK.out _ _ ?_ (fun hHeld => ?_)
  · exact HSK.out _ D4.out
  clear hK K
  try simp only [Act.put, List.setIfInBounds_toArray, List.set_cons_zero, List.set_cons_succ]
  refine wpAnyH_take (i := 17) (oi := { dst := some 49, op := Go.Op.binOp Go.BinOp.eql 4 (Go.Operand.tmp 45) (Go.Operand.tmp 48) 4, type := 4, pos := "law.go:109", after := #[{ on := 13, ground := Go.Ground.data }, { on := 16, ground := Go.Ground.data }, { on := 8, ground := Go.Ground.guard }], guard := some (8, false) }) (v := ?vz17) rfl (by kernel_rfl) (by kernel_rfl) (by kernel_rfl) (fun _ _ _ h => h) (Or.inl ⟨by rfl, ?yz17⟩) (by assumption) ?rz17
  case yz17 => ((intro w hSw; (try dsimp only at hSw); go_simp) <;> with_reducible rfl)
  try simp only [Act.put, List.setIfInBounds_toArray, List.set_cons_zero, List.set_cons_succ]
  refine wpAnyH_take (i := 18) (oi := { dst := some 50, op := Go.Op.pick (Go.Operand.tmp 40) (Go.Operand.const (Go.Value.bool true)) (Go.Operand.tmp 49), type := 4, pos := "law.go:109", after := #[{ on := 8, ground := Go.Ground.data }, { on := 17, ground := Go.Ground.data }, { on := 1, ground := Go.Ground.guard }], guard := some (1, true) }) (v := ?vz18) rfl (by kernel_rfl) (by kernel_rfl) (by kernel_rfl) (fun _ _ _ h => h) (Or.inl ⟨by rfl, ?yz18⟩) (by assumption) ?rz18
  case yz18 => ((intro w hSw; (try dsimp only at hSw); go_simp) <;> with_reducible rfl)
  try simp only [Act.put, List.setIfInBounds_toArray, List.set_cons_zero, List.set_cons_succ]
  refine wpAnyH_take (i := 19) (oi := { dst := some 51, op := Go.Op.pick (Go.Operand.tmp 33) (Go.Operand.tmp 50) (Go.Operand.const (Go.Value.bool false)), type := 4, pos := "law.go:109", after := #[{ on := 1, ground := Go.Ground.data }, { on := 18, ground := Go.Ground.data }], guard := none }) (v := ?vz19) rfl (by kernel_rfl) (by kernel_rfl) (by kernel_rfl) (fun _ _ _ h => h) (Or.inl ⟨by rfl, ?yz19⟩) (by assumption) ?rz19
  case yz19 => ((intro w hSw; (try dsimp only at hSw); go_simp) <;> with_reducible rfl)
  try simp only [Act.put, List.setIfInBounds_toArray, List.set_cons_zero, List.set_cons_succ]
  refine wpAnyH_take (i := 20) (oi := { dst := some 4, op := Go.Op.assign (Go.Operand.tmp 51), type := 4, pos := "law.go:109", after := #[{ on := 19, ground := Go.Ground.data }, { on := 16, ground := Go.Ground.chain }, { on := 0, ground := Go.Ground.phase }, { on := 1, ground := Go.Ground.phase }, { on := 2, ground := Go.Ground.phase }, { on := 3, ground := Go.Ground.phase }, { on := 4, ground := Go.Ground.phase }, { on := 5, ground := Go.Ground.phase }, { on := 6, ground := Go.Ground.phase }, { on := 7, ground := Go.Ground.phase }, { on := 8, ground := Go.Ground.phase }, { on := 9, ground := Go.Ground.phase }, { on := 10, ground := Go.Ground.phase }, { on := 11, ground := Go.Ground.phase }, { on := 12, ground := Go.Ground.phase }, { on := 13, ground := Go.Ground.phase }, { on := 14, ground := Go.Ground.phase }, { on := 15, ground := Go.Ground.phase }, { on := 16, ground := Go.Ground.phase }, { on := 17, ground := Go.Ground.phase }, { on := 18, ground := Go.Ground.phase }, { on := 19, ground := Go.Ground.phase }], guard := none }) (v := ?vz20) rfl (by kernel_rfl) (by kernel_rfl) (by kernel_rfl) (fun _ _ _ h => h) (Or.inl ⟨by rfl, ?yz20⟩) (by assumption) ?rz20
  case yz20 => ((intro w hSw; (try dsimp only at hSw); go_simp) <;> with_reducible rfl)
  try simp only [Act.put, List.setIfInBounds_toArray, List.set_cons_zero, List.set_cons_succ]
  refine wpAnyH_done (by kernel_rfl) ?_ _
  have hfin : (((strOfNums X).toList == (strOfNums Y).toList) == (decide (ch = ch') && (decide (sq = sq') && decide (xs = xs')))) = true := by
    rw [HEQ.out]; simp [Bool.decide_and]
  go_wp2_with fail
  go_ret
  exact ⟨rfl, below_thenB B3.out D4.out B3.out.size⟩
theorem fapart_walk (ch sq : Int) (xs : List Int) (A : Option Addr) (c : Nat) (ch' sq' : Int) (xs' : List Int) (A' : Option Addr) (c' : Nat) (w : World) (hC : Kd.C (Kd.int .u8) w A xs.length xs) (hcc : xs.length ≤ c) (hB : Bytes xs) (hC' : Kd.C (Kd.int .u8) w A' xs'.length xs') (hcc' : xs'.length ≤ c') (hB' : Bytes xs') (hg : Gerr w) : Calls Tryd.prog 8 #[.agg #[.int .i64 ch, .int .i64 sq, .slice A xs.length c], .agg #[.int .i64 ch', .int .i64 sq', .slice A' xs'.length c']] w fun e w' => e = .returned (.bool true) ∧ Below w.heap.size w w' := fapart_calls ch sq xs A c ch' sq' xs' A' c' w hC hcc hB hC' hcc' hB' hg
end Go.Proofs.YtnigocoanlaiiaaDoor.PE

