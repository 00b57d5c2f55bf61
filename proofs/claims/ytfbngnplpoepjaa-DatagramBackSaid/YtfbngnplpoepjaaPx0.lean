/- Functions and their contracts, printed by stubprint.py (a program of this repo, which runs the kit's print with some functions proved by hand): each call answers what the plain function tells. -/
import Derived.Test.YtfbngnplpoepjaaProg
import Derived.Below
import Derived.Deep.Draws
import Derived.Deep.AppendLies
import Derived.Maps.AppendAt
import Derived.OwnWalk
import Derived.Laws.BytesArg
import Derived.Laws.MakeOwn
import Derived.Laws.OwnMore
import Derived.Deep.OwnRows
import Derived.Tactics
import Derived.Lib.ConvBytes
import Derived.Laws.Slices
import Derived.WalkKit
import Derived.KernelRfl
import Derived.RowKit3
import Derived.Deep.LoopGhost
import Derived.Deep.QuietTactic
import Derived.BigQuiet
import Derived.WideLaws
import Derived.Deep.DeepCutAuto
import Derived.Deep.CutBlock
import Derived.Deep.RegionHeld3
import Derived.Laws.Rows
import Derived.Lib.AppendStr
import Derived.ArgAppend
import Derived.Laws.IdiomCopy
import Derived.OrdersHeld
import Derived.Laws.BitsLemmas
import Derived.RowKit
import Derived.Test.YtfbngnplpoepjaaCrcMore
import Derived.Test.YtfbngnplpoepjaaWWords
import Derived.Test.YtfbngnplpoepjaaWLast
import Derived.Test.YtfbngnplpoepjaaWTab
import Derived.Test.YtfbngnplpoepjaaWFour
import Derived.Test.YtfbngnplpoepjaaWQPut
import Derived.Test.YtfbngnplpoepjaaWApart
import Derived.Test.YtfbngnplpoepjaaWArr
import Derived.Test.YtfbngnplpoepjaaWZeros
import Derived.Test.YtfbngnplpoepjaaWFoot
import Derived.Test.YtfbngnplpoepjaaWKept
import Derived.Test.YtfbngnplpoepjaaWShare
import Derived.Test.YtfbngnplpoepjaaWN
import Derived.Test.YtfbngnplpoepjaaWFootNe
import Derived.Test.YtfbngnplpoepjaaWAt
import Derived.Test.YtfbngnplpoepjaaWEqStruct
import Derived.Test.YtfbngnplpoepjaaWRepsOne
import Derived.Test.YtfbngnplpoepjaaWInv
import Derived.Test.YtfbngnplpoepjaaWInvWords
import Derived.Test.YtfbngnplpoepjaaWGuard
import Derived.Test.YtfbngnplpoepjaaWNEv
import Derived.Test.YtfbngnplpoepjaaWMore
namespace Go.Proofs.Ytfbngnplpoepjaa.P
open Go.Proofs.Ytfbngnplpoepjaa.Own
open Go.RowKit Go.Proofs.YtfbngnplpoepjaaW.PrintWords Go.Proofs.YtfbngnplpoepjaaW.PrintLast Go.Proofs.YtfbngnplpoepjaaW.PrintMore
attribute [local go_sem] max2_int min2_int max_two min_two max_three min_three max_four min_four   -- for this text's walks alone
set_option linter.unusedVariables false
set_option linter.unusedSimpArgs false



def errW : Option Int → Value
  | none => .nilIface
  | some c => .iface 0 (.int .i64 c)
theorem errW_none : errW none = .nilIface := rfl
theorem errW_some (c : Int) : errW (some c) = .iface 0 (.int .i64 c) := rfl

theorem info5 : (Try.prog.info? 5).map (fun i => (i.zero, i.size, i.bytes)) = some (some (.int .u8 0), 1, 1) := by kernel_rfl
-- the values' own types

end Go.Proofs.Ytfbngnplpoepjaa.P
