-- PRINTED BY print.sh 35421559b90ae4d0a3588c463048766b98c2df88dd9212a6774a882060cdf62d: not written by this session
import Derived.Test.YtifonhhdfoefhaaDoorProg
import Derived.Below
import Derived.Deep.Draws
import Derived.Deep.AppendLies
import Derived.Maps.AppendAt
import Derived.OwnWalk
import Derived.Laws.BytesArg
import Derived.Laws.MakeOwn
import Derived.Laws.OwnMore
import Derived.Deep.OwnRows
import Derived.Tactics
import Derived.Lib.ConvBytes
import Derived.Laws.Slices
import Derived.WalkKit
import Derived.KernelRfl
import Derived.RowKit3
import Derived.Deep.LoopGhost
import Derived.Deep.QuietTactic
import Derived.BigQuiet
import Derived.WideLaws
import Derived.Deep.DeepCutAuto
import Derived.Deep.CutBlock
import Derived.Deep.RegionHeld3
import Derived.Laws.Rows
import Derived.Lib.AppendStr
import Derived.ArgAppend
import Derived.Laws.IdiomCopy
import Derived.OrdersHeld
import Derived.Laws.BitsLemmas
import Derived.RowKit
import Derived.Test.YtifonhhdfoefhaaDoorWWords
import Derived.Test.YtifonhhdfoefhaaDoorWLast
import Derived.Test.YtifonhhdfoefhaaDoorWTab
import Derived.Test.YtifonhhdfoefhaaDoorWFour
import Derived.Test.YtifonhhdfoefhaaDoorWQPut
import Derived.Test.YtifonhhdfoefhaaDoorWApart
import Derived.Test.YtifonhhdfoefhaaDoorWArr
import Derived.Test.YtifonhhdfoefhaaDoorWZeros
import Derived.Test.YtifonhhdfoefhaaDoorWFoot
import Derived.Test.YtifonhhdfoefhaaDoorWKept
import Derived.Test.YtifonhhdfoefhaaDoorWShare
import Derived.Test.YtifonhhdfoefhaaDoorWN
import Derived.Test.YtifonhhdfoefhaaDoorWFootNe
import Derived.Test.YtifonhhdfoefhaaDoorWAt
import Derived.Test.YtifonhhdfoefhaaDoorWEqStruct
import Derived.Test.YtifonhhdfoefhaaDoorWRepsOne
import Derived.Test.YtifonhhdfoefhaaDoorWInv
import Derived.Test.YtifonhhdfoefhaaDoorWInvWords
import Derived.Test.YtifonhhdfoefhaaDoorWGuard
import Derived.Test.YtifonhhdfoefhaaDoorWNEv
import Derived.Test.YtifonhhdfoefhaaDoorWMore
namespace Go.Proofs.YtifonhhdfoefhaaDoor.PWordKinds
open Go.RowKit Go.Proofs.YtifonhhdfoefhaaDoorW.PrintWords Go.Proofs.YtifonhhdfoefhaaDoorW.PrintLast Go.Proofs.YtifonhhdfoefhaaDoorW.PrintMore
attribute [local go_sem] max2_int min2_int max_two min_two max_three min_three max_four min_four   -- for this text's walks alone
set_option linter.unusedVariables false
set_option linter.unusedSimpArgs false



def errW : Option Int → Value
  | none => .nilIface
  | some c => .iface 0 (.int .i64 c)
theorem errW_none : errW none = .nilIface := rfl
theorem errW_some (c : Int) : errW (some c) = .iface 0 (.int .i64 c) := rfl

-- the values' own types

end Go.Proofs.YtifonhhdfoefhaaDoor.PWordKinds
