-- Of this claim: written by a program of this session (wip/stubprint.py) over the kit's printing tool, and turned by hand where it says so.
import Derived.Test.YtfijlaahifeimaaDoorPSx0
namespace Go.Proofs.YtfijlaahifeimaaDoor.PS
open Go.RowKit Go.Proofs.YtfijlaahifeimaaDoorW.PrintWords Go.Proofs.YtfijlaahifeimaaDoorW.PrintLast Go.Proofs.YtfijlaahifeimaaDoorW.PrintMore
attribute [local go_sem] max2_int min2_int max_two min_two max_three min_three max_four min_four   -- for this text's walks alone
set_option linter.unusedVariables false
set_option linter.unusedSimpArgs false

/-! ### crossbuckref13_Counts: function 44 -/
def crossbuckref13_Counts.f (l0 : List Int) (a1 : Bool) : Option (Bool × Int × Int × Int × Int) := if a1 = true then (if (l0.length : Int) = 4 then (if 2 < (l0.length : Int) then (if (rd l0 2) > 2 then (some (false, 0, 0, 0, 0)) else (if 3 < (l0.length : Int) then (if (rd l0 3) > 3 then (some (false, 0, 0, 0, 0)) else (if 0 < (l0.length : Int) then (if 1 < (l0.length : Int) then (some (true, wrap64 (rd l0 0), wrap64 (rd l0 1), wrap64 (rd l0 2), wrap64 (rd l0 3))) else (none)) else (none))) else (none))) else (none)) else (some (false, 0, 0, 0, 0))) else (some (false, 0, 0, 0, 0))
end Go.Proofs.YtfijlaahifeimaaDoor.PS
