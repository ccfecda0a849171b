-- Written by a program: the kit's print.py, driven for several laws at once. Not trusted: Lean checks it.
import Derived.Test.YtkgpnfjmahjlcaaDoorProg
import Derived.Below
import Derived.Deep.Draws
import Derived.Deep.AppendLies
import Derived.Maps.AppendAt
import Derived.OwnWalk
import Derived.Laws.BytesArg
import Derived.Laws.MakeOwn
import Derived.Laws.OwnMore
import Derived.Deep.OwnRows
import Derived.Tactics
import Derived.Lib.ConvBytes
import Derived.Laws.Slices
import Derived.WalkKit
import Derived.KernelRfl
import Derived.RowKit3
import Derived.Deep.LoopGhost
import Derived.Deep.QuietTactic
import Derived.BigQuiet
import Derived.WideLaws
import Derived.Deep.DeepCutAuto
import Derived.Deep.CutBlock
import Derived.Deep.RegionHeld3
import Derived.Laws.Rows
import Derived.Lib.AppendStr
import Derived.ArgAppend
import Derived.Laws.IdiomCopy
import Derived.OrdersHeld
import Derived.Laws.BitsLemmas
import Derived.RowKit
import Derived.Test.YtkgpnfjmahjlcaaDoorWWords
import Derived.Test.YtkgpnfjmahjlcaaDoorWLast
import Derived.Test.YtkgpnfjmahjlcaaDoorWTab
import Derived.Test.YtkgpnfjmahjlcaaDoorWFour
import Derived.Test.YtkgpnfjmahjlcaaDoorWQPut
import Derived.Test.YtkgpnfjmahjlcaaDoorWApart
import Derived.Test.YtkgpnfjmahjlcaaDoorWArr
import Derived.Test.YtkgpnfjmahjlcaaDoorWZeros
import Derived.Test.YtkgpnfjmahjlcaaDoorWFoot
import Derived.Test.YtkgpnfjmahjlcaaDoorWKept
import Derived.Test.YtkgpnfjmahjlcaaDoorWShare
import Derived.Test.YtkgpnfjmahjlcaaDoorWN
import Derived.Test.YtkgpnfjmahjlcaaDoorWFootNe
import Derived.Test.YtkgpnfjmahjlcaaDoorWAt
import Derived.Test.YtkgpnfjmahjlcaaDoorWEqStruct
import Derived.Test.YtkgpnfjmahjlcaaDoorWRepsOne
import Derived.Test.YtkgpnfjmahjlcaaDoorWInv
import Derived.Test.YtkgpnfjmahjlcaaDoorWInvWords
import Derived.Test.YtkgpnfjmahjlcaaDoorWGuard
import Derived.Test.YtkgpnfjmahjlcaaDoorWNEv
import Derived.Test.YtkgpnfjmahjlcaaDoorWMore
namespace Go.Proofs.YtkgpnfjmahjlcaaDoor.PLow
open Go.RowKit Go.Proofs.YtkgpnfjmahjlcaaDoorW.PrintWords Go.Proofs.YtkgpnfjmahjlcaaDoorW.PrintLast Go.Proofs.YtkgpnfjmahjlcaaDoorW.PrintMore
attribute [local go_sem] max2_int min2_int max_two min_two max_three min_three max_four min_four   -- for this text's walks alone
set_option linter.unusedVariables false
set_option linter.unusedSimpArgs false



def errW : Option Int → Value
  | none => .nilIface
  | some c => .iface 0 (.int .i64 c)
theorem errW_none : errW none = .nilIface := rfl
theorem errW_some (c : Int) : errW (some c) = .iface 0 (.int .i64 c) := rfl

-- the values' own types

end Go.Proofs.YtkgpnfjmahjlcaaDoor.PLow
