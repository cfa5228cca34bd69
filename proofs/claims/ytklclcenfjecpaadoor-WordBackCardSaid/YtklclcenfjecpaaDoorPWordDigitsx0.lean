-- PRINTED BY print.sh 35421559b90ae4d0a3588c463048766b98c2df88dd9212a6774a882060cdf62d: not written by this session
import Derived.Test.YtklclcenfjecpaaDoorProg
import Derived.Below
import Derived.Deep.Draws
import Derived.Deep.AppendLies
import Derived.Maps.AppendAt
import Derived.OwnWalk
import Derived.Laws.BytesArg
import Derived.Laws.MakeOwn
import Derived.Laws.OwnMore
import Derived.Deep.OwnRows
import Derived.Tactics
import Derived.Lib.ConvBytes
import Derived.Laws.Slices
import Derived.WalkKit
import Derived.KernelRfl
import Derived.RowKit3
import Derived.Deep.LoopGhost
import Derived.Deep.QuietTactic
import Derived.BigQuiet
import Derived.WideLaws
import Derived.Deep.DeepCutAuto
import Derived.Deep.CutBlock
import Derived.Deep.RegionHeld3
import Derived.Laws.Rows
import Derived.Lib.AppendStr
import Derived.ArgAppend
import Derived.Laws.IdiomCopy
import Derived.OrdersHeld
import Derived.Laws.BitsLemmas
import Derived.RowKit
import Derived.Test.YtklclcenfjecpaaDoorWWords
import Derived.Test.YtklclcenfjecpaaDoorWLast
import Derived.Test.YtklclcenfjecpaaDoorWTab
import Derived.Test.YtklclcenfjecpaaDoorWFour
import Derived.Test.YtklclcenfjecpaaDoorWQPut
import Derived.Test.YtklclcenfjecpaaDoorWApart
import Derived.Test.YtklclcenfjecpaaDoorWArr
import Derived.Test.YtklclcenfjecpaaDoorWZeros
import Derived.Test.YtklclcenfjecpaaDoorWFoot
import Derived.Test.YtklclcenfjecpaaDoorWKept
import Derived.Test.YtklclcenfjecpaaDoorWShare
import Derived.Test.YtklclcenfjecpaaDoorWN
import Derived.Test.YtklclcenfjecpaaDoorWFootNe
import Derived.Test.YtklclcenfjecpaaDoorWAt
import Derived.Test.YtklclcenfjecpaaDoorWEqStruct
import Derived.Test.YtklclcenfjecpaaDoorWRepsOne
import Derived.Test.YtklclcenfjecpaaDoorWInv
import Derived.Test.YtklclcenfjecpaaDoorWInvWords
import Derived.Test.YtklclcenfjecpaaDoorWGuard
import Derived.Test.YtklclcenfjecpaaDoorWNEv
import Derived.Test.YtklclcenfjecpaaDoorWMore
namespace Go.Proofs.YtklclcenfjecpaaDoor.PWordDigits
open Go.RowKit Go.Proofs.YtklclcenfjecpaaDoorW.PrintWords Go.Proofs.YtklclcenfjecpaaDoorW.PrintLast Go.Proofs.YtklclcenfjecpaaDoorW.PrintMore
attribute [local go_sem] max2_int min2_int max_two min_two max_three min_three max_four min_four   -- for this text's walks alone
set_option linter.unusedVariables false
set_option linter.unusedSimpArgs false



def errW : Option Int → Value
  | none => .nilIface
  | some c => .iface 0 (.int .i64 c)
theorem errW_none : errW none = .nilIface := rfl
theorem errW_some (c : Int) : errW (some c) = .iface 0 (.int .i64 c) := rfl

theorem info5 : (Tryd.prog.info? 5).map (fun i => (i.zero, i.size, i.bytes)) = some (some (.int .u8 0), 1, 1) := by kernel_rfl
-- the values' own types

end Go.Proofs.YtklclcenfjecpaaDoor.PWordDigits
