/- Out of the kit's print of this seat's functions, put together by a program of mine. -/
import Derived.Test.YtapiapkdiggboaaProg
import Derived.Below
import Derived.Deep.Draws
import Derived.Deep.AppendLies
import Derived.Maps.AppendAt
import Derived.OwnWalk
import Derived.Laws.BytesArg
import Derived.Laws.MakeOwn
import Derived.Laws.OwnMore
import Derived.Deep.OwnRows
import Derived.Tactics
import Derived.Lib.ConvBytes
import Derived.Laws.Slices
import Derived.WalkKit
import Derived.KernelRfl
import Derived.RowKit3
import Derived.Deep.LoopGhost
import Derived.Deep.QuietTactic
import Derived.BigQuiet
import Derived.WideLaws
import Derived.Deep.DeepCutAuto
import Derived.Deep.CutBlock
import Derived.Deep.RegionHeld3
import Derived.Laws.Rows
import Derived.Lib.AppendStr
import Derived.ArgAppend
import Derived.Laws.IdiomCopy
import Derived.OrdersHeld
import Derived.Laws.BitsLemmas
import Derived.RowKit
import Derived.Test.YtapiapkdiggboaaWWords
import Derived.Test.YtapiapkdiggboaaWLast
import Derived.Test.YtapiapkdiggboaaWTab
import Derived.Test.YtapiapkdiggboaaWFour
import Derived.Test.YtapiapkdiggboaaWQPut
import Derived.Test.YtapiapkdiggboaaWApart
import Derived.Test.YtapiapkdiggboaaWArr
import Derived.Test.YtapiapkdiggboaaWZeros
import Derived.Test.YtapiapkdiggboaaWFoot
import Derived.Test.YtapiapkdiggboaaWKept
import Derived.Test.YtapiapkdiggboaaWShare
import Derived.Test.YtapiapkdiggboaaWN
import Derived.Test.YtapiapkdiggboaaWFootNe
import Derived.Test.YtapiapkdiggboaaWAt
import Derived.Test.YtapiapkdiggboaaWEqStruct
import Derived.Test.YtapiapkdiggboaaWRepsOne
import Derived.Test.YtapiapkdiggboaaWInv
import Derived.Test.YtapiapkdiggboaaWInvWords
import Derived.Test.YtapiapkdiggboaaWGuard
import Derived.Test.YtapiapkdiggboaaWNEv
import Derived.Test.YtapiapkdiggboaaWMore
namespace Go.Proofs.Ytapiapkdiggboaa.B
open Go.RowKit Go.Proofs.YtapiapkdiggboaaW.PrintWords Go.Proofs.YtapiapkdiggboaaW.PrintLast Go.Proofs.YtapiapkdiggboaaW.PrintMore
attribute [local go_sem] max2_int min2_int max_two min_two max_three min_three max_four min_four   -- for this text's walks alone
set_option linter.unusedVariables false
set_option linter.unusedSimpArgs false



def errW : Option Int → Value
  | none => .nilIface
  | some c => .iface 0 (.int .i64 c)
theorem errW_none : errW none = .nilIface := rfl
theorem errW_some (c : Int) : errW (some c) = .iface 0 (.int .i64 c) := rfl

theorem info5 : (Try.prog.info? 5).map (fun i => (i.zero, i.size, i.bytes)) = some (some (.int .u8 0), 1, 1) := by kernel_rfl
theorem info3 : (Try.prog.info? 3).map (fun i => (i.zero, i.size, i.bytes)) = some (some (.int .i64 0), 1, 8) := by kernel_rfl
-- the values' own types


end Go.Proofs.Ytapiapkdiggboaa.B
