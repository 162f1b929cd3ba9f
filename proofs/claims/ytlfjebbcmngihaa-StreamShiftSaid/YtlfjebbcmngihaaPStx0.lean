/- The Go functions that this seat's statements reach: each with the plain function that it computes, for every input at which that function answers. Written by a program of the session (wip/tools/hprint.py) over the kit's printer; contracts that the printer does not take are proved by hand among them. -/
import Derived.Test.YtlfjebbcmngihaaProg
import Derived.Below
import Derived.Deep.Draws
import Derived.Deep.AppendLies
import Derived.Maps.AppendAt
import Derived.OwnWalk
import Derived.Laws.BytesArg
import Derived.Laws.MakeOwn
import Derived.Laws.OwnMore
import Derived.Deep.OwnRows
import Derived.Tactics
import Derived.Lib.ConvBytes
import Derived.Laws.Slices
import Derived.WalkKit
import Derived.KernelRfl
import Derived.RowKit3
import Derived.Deep.LoopGhost
import Derived.Deep.QuietTactic
import Derived.BigQuiet
import Derived.WideLaws
import Derived.Deep.DeepCutAuto
import Derived.Deep.CutBlock
import Derived.Deep.RegionHeld3
import Derived.Laws.Rows
import Derived.Lib.AppendStr
import Derived.ArgAppend
import Derived.Laws.IdiomCopy
import Derived.OrdersHeld
import Derived.Laws.BitsLemmas
import Derived.RowKit
import Derived.Test.YtlfjebbcmngihaaWWords
import Derived.Test.YtlfjebbcmngihaaWLast
import Derived.Test.YtlfjebbcmngihaaWTab
import Derived.Test.YtlfjebbcmngihaaWFour
import Derived.Test.YtlfjebbcmngihaaWQPut
import Derived.Test.YtlfjebbcmngihaaWApart
import Derived.Test.YtlfjebbcmngihaaWArr
import Derived.Test.YtlfjebbcmngihaaWZeros
import Derived.Test.YtlfjebbcmngihaaWFoot
import Derived.Test.YtlfjebbcmngihaaWKept
import Derived.Test.YtlfjebbcmngihaaWShare
import Derived.Test.YtlfjebbcmngihaaWN
import Derived.Test.YtlfjebbcmngihaaWFootNe
import Derived.Test.YtlfjebbcmngihaaWAt
import Derived.Test.YtlfjebbcmngihaaWEqStruct
import Derived.Test.YtlfjebbcmngihaaWRepsOne
import Derived.Test.YtlfjebbcmngihaaWInv
import Derived.Test.YtlfjebbcmngihaaWInvWords
import Derived.Test.YtlfjebbcmngihaaWGuard
import Derived.Test.YtlfjebbcmngihaaWNEv
import Derived.Test.YtlfjebbcmngihaaWMore
namespace Go.Proofs.Ytlfjebbcmngihaa.PSt
open Go.RowKit Go.Proofs.YtlfjebbcmngihaaW.PrintWords Go.Proofs.YtlfjebbcmngihaaW.PrintLast Go.Proofs.YtlfjebbcmngihaaW.PrintMore
attribute [local go_sem] max2_int min2_int max_two min_two max_three min_three max_four min_four   -- for this text's walks alone
set_option linter.unusedVariables false
set_option linter.unusedSimpArgs false



def errW : Option Int → Value
  | none => .nilIface
  | some c => .iface 0 (.int .i64 c)
theorem errW_none : errW none = .nilIface := rfl
theorem errW_some (c : Int) : errW (some c) = .iface 0 (.int .i64 c) := rfl

theorem info22 : (Try.prog.info? 22).map (fun i => (i.zero, i.size, i.bytes)) = some (some (.int .u64 0), 1, 8) := by kernel_rfl
-- the values' own types

end Go.Proofs.Ytlfjebbcmngihaa.PSt
