/- SensorOnce returns true, of any bytes: its cases joined. -/
import Derived.Test.YthefjcpddiggkaaHOnceWalk
namespace Go.Proofs.Ythefjcpddiggkaa.PS
open Go.RowKit Go.Proofs.YthefjcpddiggkaaW.PrintWords Go.Proofs.YthefjcpddiggkaaW.PrintLast Go.Proofs.YthefjcpddiggkaaW.PrintMore
set_option linter.unusedVariables false
def powOk (x : Int) (o : Option (Bool × Bool)) : Bool := match o with | some (p, q) => x > 3 || bn p + 2 * bn q == x | none => false
theorem power_one (x : Int) (h0 : 0 ≤ x) (h1 : x ≤ 255) : ∃ p q, sensor_Power.f [x] true = some (p, q) ∧ (x ≤ 3 → bn p + 2 * bn q = x) := by
  have e := bytes_all (fun x => powOk x (sensor_Power.f [x] true)) (by kernel_rfl) x h0 h1
  rcases hh : sensor_Power.f [x] true with _ | ⟨p, q⟩
  · simp [hh, powOk] at e
  · simp [hh, powOk] at e
    exact ⟨p, q, rfl, fun h => e.resolve_left (by omega)⟩
theorem routes_one (x : Int) (h0 : 0 ≤ x) (h1 : x ≤ 255) : sensor_Routes.f [x] true 8 = some x := by
  have e := bytes_all (fun x => sensor_Routes.f [x] true 8 == some x) (by kernel_rfl) x h0 h1
  simpa using e
theorem mode_one (x : Int) (h0 : 0 ≤ x) (h1 : x ≤ 255) : ∃ m, sensor_Mode.f [x] true = some m ∧ (x ≤ 2 → m = x) := by
  have e := bytes_all (fun x => match sensor_Mode.f [x] true with | some m => x > 2 || m == x | none => false) (by kernel_rfl) x h0 h1
  rcases hh : sensor_Mode.f [x] true with _ | m
  · simp [hh] at e
  · simp [hh] at e
    exact ⟨m, rfl, fun h => e.resolve_left (by omega)⟩
theorem once_calls (A0 : Option Addr) (c0 : Nat) (l0 : List Int) (w : World) (hr0 : Kd.C (Kd.int .u8) w A0 l0.length l0) (hc0 : l0.length ≤ c0) (hb : ∀ x ∈ l0, (Lit.int .u8 x).wf = true) :
    Calls Try.prog 7 #[.slice A0 l0.length c0] w fun e w' => e = .returned (.bool true) ∧ Below w.heap.size w w' := by
  by_cases hbig : 300 < l0.length
  · exact once_big A0 c0 l0 w hr0 hc0 hbig
  rcases four_or l0 true hb with h4 | ⟨_, a, b, c, d, rfl, ha, hb', hc, hd⟩
  · rcases one_or l0 true hb with h1 | ⟨_, x, rfl, h0, h1⟩
    · refine once_none A0 c0 l0 w hr0 hc0 hbig ?_ (counts_no h4)
      have : ¬ l0.length = 1 := fun e => h1 ⟨rfl, e⟩
      exact beq_eq_false_iff_ne.2 (by omega)
    · obtain ⟨m, hm, hm2⟩ := mode_one x h0 h1
      obtain ⟨p, q, hp, hp2⟩ := power_one x h0 h1
      have hR := routes_one x h0 h1
      have h5 : Inp.prt ⟨false, false, false, false, false, false, false, m, p, q, x, []⟩ 5 = some [x] := by
        rw [prt5, number_is]
        rw [if_pos (by constructor <;> (dsimp only; omega))]
        simp only [Option.some.injEq, List.cons.injEq, and_true]
        omega
      by_cases c2 : x ≤ 2
      · refine once_low A0 c0 x m p q w hr0 hc0 hm hR hp h0 h1 c2 ?_ h5 ?_
        · rw [prt3, number_is, if_pos (by have := hm2 c2; constructor <;> (dsimp only; omega))]
          have := hm2 c2
          simp only [Option.some.injEq, List.cons.injEq, and_true]
          omega
        · rw [prt4]; simp only [hp2 (by omega)]
      · by_cases c3 : x ≤ 3
        · exact once_mid A0 c0 x m p q w hr0 hc0 hm hR hp h0 h1 (by omega) c3 h5 (by rw [prt4]; simp only [hp2 c3])
        · exact once_high A0 c0 x m p q w hr0 hc0 hm hR hp h0 h1 (by omega) h5
  · have hk := counts_four a b c d ha hb' hc hd
    by_cases k : c ≤ 2 ∧ d ≤ 3
    · rw [if_pos k] at hk
      refine once_four A0 c0 a b c d w hr0 hc0 hk ?_
      unfold trackB
      rw [if_pos (by refine ⟨rfl, ?_, ?_, ?_, ?_⟩ <;> (dsimp only; omega))]
    · rw [if_neg k] at hk
      exact once_none A0 c0 _ w hr0 hc0 hbig (by simp) hk
theorem once_walk (a0 : Option Addr) (len0 cap0 : Nat) (z0 : List Int) (w : World) (w0 : (a0 = none ∧ len0 = 0 ∧ cap0 = 0 ∧ z0 = []) ∨ ∃ x, a0 = some x ∧ len0 ≤ cap0 ∧ cap0 ≤ maxLen ∧ z0.length = cap0 ∧ (∀ i, i < z0.length → w.cell? (x.add i) = some (.int .u8 (z0.getD i 0))) ∧ ∀ n ∈ z0, (Lit.int .u8 n).wf = true) (y0 : len0 * 1 ≤ 140737488351232) :
    Calls Try.prog 7 #[.slice a0 len0 cap0] w fun e w' => e = .returned (.bool true) ∧ Below w.heap.size w w' := by
  obtain ⟨l0, rfl, hr0, hm0, hw0, hc0⟩ := ReadsInt.ofRowC w0
  exact once_calls _ _ l0 w (Kd.C_of_reads (d := (0 : Int)) (h1 := fun _ => rfl) hr0) hc0 hw0
end Go.Proofs.Ythefjcpddiggkaa.PS
