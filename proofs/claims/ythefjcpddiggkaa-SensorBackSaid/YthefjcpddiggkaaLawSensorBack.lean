/- What is printed is read as it was: the row of SensorBack. -/
-- Of this claim: written by a program of this session (wip/stubprint.py) over the kit's printing tool, and turned by hand where it says so.
import Derived.Test.YthefjcpddiggkaaRows
import Derived.Test.YthefjcpddiggkaaHBackWalk
import Derived.Test.YthefjcpddiggkaaHOpen
import Derived.WalkKit
import Derived.ProofKit
import Derived.OpenShut
import Derived.ShutString
import Derived.ChangeOld
import Derived.Below
import Derived.SizedLaws
import Derived.Test.YthefjcpddiggkaaWSized
namespace Go.Proofs.Ythefjcpddiggkaa.sensorBack
open Go.ChangeShapes Go.WideShapes Go.ChangeAt Go.RowKit
open Go.ChangeMaps (open_string shut_string)
set_option linter.unusedVariables false
theorem own : ownKnob Try.prog.godebug = none := by kernel_rfl
theorem laidOut : laidOutB Try.prog = true := by kernel_rfl
open Go.Proofs.YthefjcpddiggkaaW.PrintWords Go.Proofs.Ythefjcpddiggkaa.Open in
/-- The inputs' kind: a barrier, and the rest. -/
def kInp : Kd ((Bool × Bool × Bool × Bool) × Bool × Bool × Bool × Int × Bool × Bool × Int × List PS.S33) :=
  Kd.pair (Kd.pair Kd.bool (Kd.pair Kd.bool (Kd.pair Kd.bool Kd.bool))) (Kd.pair Kd.bool (Kd.pair Kd.bool (Kd.pair Kd.bool (Kd.pair (Kd.int .i64) (Kd.pair Kd.bool (Kd.pair Kd.bool (Kd.pair (Kd.int .i64) (Kd.slice 33 PS.k33))))))))
open Go.Proofs.YthefjcpddiggkaaW.PrintWords Go.Proofs.Ythefjcpddiggkaa.Open in
theorem dec33 {H : Type} {enc : TypeId × Value → H} {W : World} : ∃ ok, Dec enc Try.prog W PS.k33 33 ok := by
  have hb : Dec enc Try.prog W Kd.bool 4 (fun _ => True) := Dec.bool Try.underlying4
  have hi : Dec enc Try.prog W (Kd.int .i64) 3 (fun n => (Lit.int .i64 n).wf = true) := Dec.int Try.underlying3
  exact ⟨_, Dec.iso (Dec.struct Try.underlying33 (total := 5) (by kernel_rfl) (DecF.cons rfl (by kernel_rfl) hb (DecF.cons rfl (by kernel_rfl) hi (DecF.cons rfl (by kernel_rfl) hi (DecF.cons rfl (by kernel_rfl) hi (DecF.last rfl (by kernel_rfl) hi)))))) (fun x : PS.S33 => (x.f0, x.f1, x.f2, x.f3, x.f4)) (fun x => ⟨x.1, x.2.1, x.2.2.1, x.2.2.2.1, x.2.2.2.2⟩) (fun _ => rfl)⟩
open Go.Proofs.YthefjcpddiggkaaW.PrintWords Go.Proofs.Ythefjcpddiggkaa.Open in
theorem dec38 {H : Type} {enc : TypeId × Value → H} {W : World} : ∃ ok, Dec enc Try.prog W kInp 38 ok := by
  have hb : Dec enc Try.prog W Kd.bool 4 (fun _ => True) := Dec.bool Try.underlying4
  have hi : Dec enc Try.prog W (Kd.int .i64) 3 (fun n => (Lit.int .i64 n).wf = true) := Dec.int Try.underlying3
  obtain ⟨ok, ht⟩ := dec33 (enc := enc) (W := W)
  have hs := Dec.slice (k := PS.k33) (t := 36) (e := 33) Try.underlying36 (by kernel_rfl) ht
  have h27 := Dec.struct Try.underlying27 (total := 4) (by kernel_rfl) (DecF.cons (o := 0) rfl (by kernel_rfl) hb (DecF.cons rfl (by kernel_rfl) hb (DecF.cons rfl (by kernel_rfl) hb (DecF.last rfl (by kernel_rfl) hb))))
  exact ⟨_, Dec.struct Try.underlying38 (total := 12) (by kernel_rfl) (DecF.cons rfl (by kernel_rfl) h27 (DecF.cons rfl (by kernel_rfl) hb (DecF.cons rfl (by kernel_rfl) hb (DecF.cons rfl (by kernel_rfl) hb (DecF.cons rfl (by kernel_rfl) hi (DecF.cons rfl (by kernel_rfl) hb (DecF.cons rfl (by kernel_rfl) hb (DecF.cons rfl (by kernel_rfl) hi (DecF.last rfl (by kernel_rfl) hs)))))))))⟩
open Go.Proofs.YthefjcpddiggkaaW.PrintWords Go.Proofs.Ythefjcpddiggkaa.Open in
/-- The argument, opened. -/
theorem openInp {H : Type} {enc : TypeId × Value → H} {W : World} {v : Value} {d : DataW H} {p : List MemPlace} (hw : Value.okWide Try.prog W .any 0 38 v) (h : DataW.Trod enc Try.prog W 0 (fun _ => true) true 38 v d p) :
    ∃ (b0 b1 b2 b3 su la ob : Bool) (mo : Int) (ma ba : Bool) (ro : Int) (tr : List PS.S33) (A : Option Addr) (c : Nat), v = .agg #[.bool b0, .bool b1, .bool b2, .bool b3, .bool su, .bool la, .bool ob, .int .i64 mo, .bool ma, .bool ba, .int .i64 ro, .slice A tr.length c] ∧ tr.length ≤ c ∧ Kd.C PS.k33 W A tr.length tr := by
  obtain ⟨cs, rfl, _⟩ := okWide_struct Try.underlying38 hw
  obtain ⟨ok, hd⟩ := dec38 (enc := enc) (W := W)
  obtain ⟨⟨⟨b0, b1, b2, b3⟩, su, la, ob, mo, ma, ba, ro, tr⟩, hk, _⟩ := hd.value h
  obtain ⟨_, _, e, ⟨_, _, rfl, rfl, ⟨_, _, rfl, rfl, ⟨_, _, rfl, rfl, rfl⟩⟩⟩, ⟨_, _, rfl, rfl, ⟨_, _, rfl, rfl, ⟨_, _, rfl, rfl, ⟨_, _, rfl, rfl, ⟨_, _, rfl, rfl, ⟨_, _, rfl, rfl, ⟨_, _, rfl, rfl, ⟨A, c, rfl, hl, hC⟩⟩⟩⟩⟩⟩⟩⟩⟩ := hk
  refine ⟨b0, b1, b2, b3, su, la, ob, mo, ma, ba, ro, tr, A, c, ?_, hl, hC⟩
  have e2 : cs.toList = _ := e
  rw [← Array.toArray_toList (xs := cs), e2]
  rfl
set_option maxRecDepth 100000 in
theorem lifted (os : Os) (started : os.Started) (H : Type) (enc : TypeId × Value → H) :
    ReturnsInHanded {} Try.checked os 4 .any (Rows.sensorBackSpec.pre6 enc Try.prog Try.f4 Rows.sensorBackRow.domain false) (Rows.sensorBackSpec.post enc Try.prog Try.f4 false true false false) := by
  refine returnsInHanded_of_change_sized (C := Try.checked) own started (by kernel_rfl) Try.func4
    (ChangeSpec.witness6 (enc := enc) (C := Try.checked) false ⟨#[], #[.agg #[.bool false, .bool false, .bool false, .bool false, .bool false, .bool false, .bool false, .int .i64 0, .bool false, .bool false, .int .i64 0, .slice none 0 0]], []⟩ 8 (by kernel_rfl) (by kernel_rfl) (by kernel_rfl) (by kernel_rfl)) ?_
  intro W base args ds gs before hval0 hW hcnd hsz0 _
  have hsz : (DataW.weightsEach Try.prog (Try.f4.params.toList ++ Rows.sensorBackSpec.plain.varTypes Try.prog) (ds ++ gs)).all (· ≤ reachBytes) = true := hsz0
  have hval : ∀ (j : Nat) t v, Try.f4.params[j]? = some t → args[j]? = some v → Value.okWide Try.prog W .any base t v := hval0
  have hW' := hW
  obtain ⟨p, q, hA0, hV, rfl, hfz, hnd⟩ := hW
  have hA : DataW.TrodAll enc Try.prog W 0 (fun _ => true) true Try.f4.params.toList args.toList ds p := hA0
  rw [Try.params4] at hA hval hsz
  obtain ⟨v0, vs0, d0, ds0, p0, q0, hargs, rfl, rfl, h0, r0⟩ := trodAll_cons hA
  obtain ⟨rfl, rfl, rfl⟩ := trodAll_nil r0
  obtain rfl : args = #[v0] := by cases args; simp_all
  obtain ⟨rfl, rfl⟩ := trodVars_none hV
  have k0 := h0
  have lt0 : ∀ x ∈ p0, x.block < W.heap.size := by obtain ⟨m, hm⟩ := k0; exact DataW.trod_lt m _ _ _ hm
  obtain ⟨b0, b1, b2, b3, su, la, ob, mo, ma, ba, ro, tr, A, c, rfl, hl, hC⟩ := openInp (hval 0 38 v0 rfl rfl) h0
  clear hA0 hval0 hsz0 hsz
  have walk : Calls Try.prog 4 #[.agg #[.bool b0, .bool b1, .bool b2, .bool b3, .bool su, .bool la, .bool ob, .int .i64 mo, .bool ma, .bool ba, .int .i64 ro, .slice A tr.length c]] W fun e w' => e = .returned (.bool true) ∧ Below W.heap.size W w' := by
    by_cases hbig : 8 < tr.length
    · exact PS.back_big A c b0 b1 b2 b3 su la ob mo ma ba ro tr W hbig hC.2.1
    · exact PS.back_few A c b0 b1 b2 b3 su la ob mo ma ba ro tr W hC hl (by omega)
  refine walk.mono fun e W' ⟨he, bel⟩ => ?_
  subst he
  exact ⟨_, rfl, _, _, _, [], _, [], hW', trodAll_mk1 (shut_bool Try.underlying4 _), (trodAll_cons_mk (Below.trod laidOut (by kernel_rfl) (of_decide_eq_true (by kernel_rfl)) k0 bel lt0) trodAll_mk0), rfl, bel.frame _, fun h => by cases h⟩
theorem over : Rows.sensorBackRow.holds Try.pinned (OpenSpec.ofChange Rows.sensorBackSpec) :=
  OpenClaim.holds_of_wide 4 Try.f4 rfl rfl rfl rfl rfl rfl rfl ⟨rfl, rfl, rfl, rfl, rfl⟩ rfl rfl rfl rfl rfl (by kernel_rfl) Try.func4 (by kernel_rfl)
    (of_decide_eq_true (by kernel_rfl)) (by unfold Func.isWrapper; first | (rw [if_pos (by decide +kernel)]; kernel_rfl) | (rw [if_neg (by decide +kernel)]; exact ⟨rfl, rfl⟩))
    (fun os started H enc _ => lifted os started H enc)
theorem proved : Rows.SensorBackSaid := over
#print axioms proved
end Go.Proofs.Ythefjcpddiggkaa.sensorBack
namespace Go.Proofs.Ythefjcpddiggkaa
/-- The row, under a short name, for the claim. -/
theorem sensorBack_holds : Rows.SensorBackSaid := sensorBack.proved
end Go.Proofs.Ythefjcpddiggkaa
