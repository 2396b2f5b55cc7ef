-- PRINTED BY print.sh 35421559b90ae4d0a3588c463048766b98c2df88dd9212a6774a882060cdf62d: not written by this session
import Derived.Test.YtnigocoanlaiiaaDoorProg
import Derived.Below
import Derived.Deep.Draws
import Derived.Deep.AppendLies
import Derived.Maps.AppendAt
import Derived.OwnWalk
import Derived.Laws.BytesArg
import Derived.Laws.MakeOwn
import Derived.Laws.OwnMore
import Derived.Deep.OwnRows
import Derived.Tactics
import Derived.Lib.ConvBytes
import Derived.Laws.Slices
import Derived.WalkKit
import Derived.KernelRfl
import Derived.RowKit3
import Derived.Deep.LoopGhost
import Derived.Deep.QuietTactic
import Derived.BigQuiet
import Derived.WideLaws
import Derived.Deep.DeepCutAuto
import Derived.Deep.CutBlock
import Derived.Deep.RegionHeld3
import Derived.Laws.Rows
import Derived.Lib.AppendStr
import Derived.ArgAppend
import Derived.Laws.IdiomCopy
import Derived.OrdersHeld
import Derived.Laws.BitsLemmas
import Derived.RowKit
import Derived.Test.YtnigocoanlaiiaaDoorWWords
import Derived.Test.YtnigocoanlaiiaaDoorWLast
import Derived.Test.YtnigocoanlaiiaaDoorWTab
import Derived.Test.YtnigocoanlaiiaaDoorWFour
import Derived.Test.YtnigocoanlaiiaaDoorWQPut
import Derived.Test.YtnigocoanlaiiaaDoorWApart
import Derived.Test.YtnigocoanlaiiaaDoorWArr
import Derived.Test.YtnigocoanlaiiaaDoorWZeros
import Derived.Test.YtnigocoanlaiiaaDoorWFoot
import Derived.Test.YtnigocoanlaiiaaDoorWKept
import Derived.Test.YtnigocoanlaiiaaDoorWShare
import Derived.Test.YtnigocoanlaiiaaDoorWN
import Derived.Test.YtnigocoanlaiiaaDoorWFootNe
import Derived.Test.YtnigocoanlaiiaaDoorWAt
import Derived.Test.YtnigocoanlaiiaaDoorWEqStruct
import Derived.Test.YtnigocoanlaiiaaDoorWRepsOne
import Derived.Test.YtnigocoanlaiiaaDoorWInv
import Derived.Test.YtnigocoanlaiiaaDoorWInvWords
import Derived.Test.YtnigocoanlaiiaaDoorWGuard
import Derived.Test.YtnigocoanlaiiaaDoorWNEv
import Derived.Test.YtnigocoanlaiiaaDoorWMore
namespace Go.Proofs.YtnigocoanlaiiaaDoor.PFrameCodes
open Go.RowKit Go.Proofs.YtnigocoanlaiiaaDoorW.PrintWords Go.Proofs.YtnigocoanlaiiaaDoorW.PrintLast Go.Proofs.YtnigocoanlaiiaaDoorW.PrintMore
attribute [local go_sem] max2_int min2_int max_two min_two max_three min_three max_four min_four   -- for this text's walks alone
set_option linter.unusedVariables false
set_option linter.unusedSimpArgs false



def errW : Option Int → Value
  | none => .nilIface
  | some c => .iface 30 (.int .i64 c)
theorem errW_none : errW none = .nilIface := rfl
theorem errW_some (c : Int) : errW (some c) = .iface 30 (.int .i64 c) := rfl

theorem info5 : (Tryd.prog.info? 5).map (fun i => (i.zero, i.size, i.bytes)) = some (some (.int .u8 0), 1, 1) := by kernel_rfl
-- the values' own types

end Go.Proofs.YtnigocoanlaiiaaDoor.PFrameCodes
