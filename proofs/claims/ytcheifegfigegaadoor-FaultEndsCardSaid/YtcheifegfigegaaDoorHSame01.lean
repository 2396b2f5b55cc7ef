/- Two equal rows of texts are the same. -/
import Derived.Test.YtcheifegfigegaaDoorPFaultPlainx1
import Derived.Test.YtcheifegfigegaaDoorHPath
import Derived.Test.YtcheifegfigegaaDoorHIs
import Derived.Test.YtcheifegfigegaaDoorHText
namespace Go.Proofs.YtcheifegfigegaaDoor.PE
open Go.RowKit Go.Extern.Stop Go.Stop Go.Extern Go.Proofs.YtcheifegfigegaaDoorW.PrintWords Go.Proofs.YtcheifegfigegaaDoorW.PrintLast Go.Proofs.YtcheifegfigegaaDoorW.PrintMore Go.Proofs.YtcheifegfigegaaDoor.PFaultPlain
set_option linter.unusedVariables false
set_option linter.unusedSimpArgs false
theorem same_l0 (l : List ByteArray) (hl : l.length ≤ 1000000) : ∀ d i : Nat, i + d = l.length → crossbuckref01_Same.l0 (d + 1) l l (i : Int) = some true
  | 0, i, h => by
    unfold crossbuckref01_Same.l0
    rw [if_neg (by omega)]
  | d + 1, i, h => by
    unfold crossbuckref01_Same.l0
    have w : wrap64 ((i : Int) + 1) = ((i + 1 : Nat) : Int) := by unfold wrap64; omega
    rw [if_pos (by omega), if_pos (by omega), if_pos (by omega), if_pos rfl, w]
    exact same_l0 l hl d (i + 1) (by omega)
theorem same_f (l : List ByteArray) (hl : l.length ≤ 1000000) : crossbuckref01_Same.f (l.length + 1) l l = some true := by
  unfold crossbuckref01_Same.f
  rw [if_pos rfl]
  exact same_l0 l hl l.length 0 (by omega)
theorem Same01_calls (l : List ByteArray) (A : Option Addr) (c : Nat) (A' : Option Addr) (c' : Nat) (w : World) (hl : l.length ≤ 1000000) (h : Kd.C Kd.string w A l.length l) (hc : l.length ≤ c) (h' : Kd.C Kd.string w A' l.length l) (hc' : l.length ≤ c') :
    Calls Tryd.prog 13 #[.slice A l.length c, .slice A' l.length c'] w fun e w' => e = .returned (.bool true) ∧ Below w.heap.size w w' := by
  refine (crossbuckref01_Same.calls (l.length + 1) A c l A' c' l true w h hc h' hc' (same_f l hl)).mono ?_
  rintro e w' ⟨rfl, hd⟩
  exact ⟨rfl, hd.below⟩
end Go.Proofs.YtcheifegfigegaaDoor.PE
