-- PRINTED BY print.sh 35421559b90ae4d0a3588c463048766b98c2df88dd9212a6774a882060cdf62d: not written by this session
import Derived.Test.YtcikcehphpbfhaaDoorProg
import Derived.Below
import Derived.Deep.Draws
import Derived.Deep.AppendLies
import Derived.Maps.AppendAt
import Derived.OwnWalk
import Derived.Laws.BytesArg
import Derived.Laws.MakeOwn
import Derived.Laws.OwnMore
import Derived.Deep.OwnRows
import Derived.Tactics
import Derived.Lib.ConvBytes
import Derived.Laws.Slices
import Derived.WalkKit
import Derived.KernelRfl
import Derived.RowKit3
import Derived.Deep.LoopGhost
import Derived.Deep.QuietTactic
import Derived.BigQuiet
import Derived.WideLaws
import Derived.Deep.DeepCutAuto
import Derived.Deep.CutBlock
import Derived.Deep.RegionHeld3
import Derived.Laws.Rows
import Derived.Lib.AppendStr
import Derived.ArgAppend
import Derived.Laws.IdiomCopy
import Derived.OrdersHeld
import Derived.Laws.BitsLemmas
import Derived.RowKit
import Derived.Test.YtcikcehphpbfhaaDoorWWords
import Derived.Test.YtcikcehphpbfhaaDoorWLast
import Derived.Test.YtcikcehphpbfhaaDoorWTab
import Derived.Test.YtcikcehphpbfhaaDoorWFour
import Derived.Test.YtcikcehphpbfhaaDoorWQPut
import Derived.Test.YtcikcehphpbfhaaDoorWApart
import Derived.Test.YtcikcehphpbfhaaDoorWArr
import Derived.Test.YtcikcehphpbfhaaDoorWZeros
import Derived.Test.YtcikcehphpbfhaaDoorWFoot
import Derived.Test.YtcikcehphpbfhaaDoorWKept
import Derived.Test.YtcikcehphpbfhaaDoorWShare
import Derived.Test.YtcikcehphpbfhaaDoorWN
import Derived.Test.YtcikcehphpbfhaaDoorWFootNe
import Derived.Test.YtcikcehphpbfhaaDoorWAt
import Derived.Test.YtcikcehphpbfhaaDoorWEqStruct
import Derived.Test.YtcikcehphpbfhaaDoorWRepsOne
import Derived.Test.YtcikcehphpbfhaaDoorWInv
import Derived.Test.YtcikcehphpbfhaaDoorWInvWords
import Derived.Test.YtcikcehphpbfhaaDoorWGuard
import Derived.Test.YtcikcehphpbfhaaDoorWNEv
import Derived.Test.YtcikcehphpbfhaaDoorWMore
namespace Go.Proofs.YtcikcehphpbfhaaDoor.PLinkPlays
open Go.RowKit Go.Proofs.YtcikcehphpbfhaaDoorW.PrintWords Go.Proofs.YtcikcehphpbfhaaDoorW.PrintLast Go.Proofs.YtcikcehphpbfhaaDoorW.PrintMore
attribute [local go_sem] max2_int min2_int max_two min_two max_three min_three max_four min_four   -- for this text's walks alone
set_option linter.unusedVariables false
set_option linter.unusedSimpArgs false



def errW : Option Int → Value
  | none => .nilIface
  | some c => .iface 33 (.int .i64 c)
theorem errW_none : errW none = .nilIface := rfl
theorem errW_some (c : Int) : errW (some c) = .iface 33 (.int .i64 c) := rfl

theorem info5 : (Tryd.prog.info? 5).map (fun i => (i.zero, i.size, i.bytes)) = some (some (.int .u8 0), 1, 1) := by kernel_rfl
-- the values' own types

end Go.Proofs.YtcikcehphpbfhaaDoor.PLinkPlays
