/- Go functions of the program as plain Lean functions with a number of rounds, and that the calls come to exactly their answers. Conditions: those in each theorem. Written by a program of this project (wip/tools/xprint.py). -/
import Derived.Test.YtogkjlfinjlngaaProg
import Derived.Below
import Derived.Deep.Draws
import Derived.Deep.AppendLies
import Derived.Maps.AppendAt
import Derived.OwnWalk
import Derived.Laws.BytesArg
import Derived.Laws.MakeOwn
import Derived.Laws.OwnMore
import Derived.Deep.OwnRows
import Derived.Tactics
import Derived.Lib.ConvBytes
import Derived.Laws.Slices
import Derived.WalkKit
import Derived.KernelRfl
import Derived.RowKit3
import Derived.Deep.LoopGhost
import Derived.Deep.QuietTactic
import Derived.BigQuiet
import Derived.WideLaws
import Derived.Deep.DeepCutAuto
import Derived.Deep.CutBlock
import Derived.Deep.RegionHeld3
import Derived.Laws.Rows
import Derived.Lib.AppendStr
import Derived.ArgAppend
import Derived.Laws.IdiomCopy
import Derived.OrdersHeld
import Derived.Laws.BitsLemmas
import Derived.RowKit
import Derived.Test.YtogkjlfinjlngaaIx
import Derived.Lib.Bytealg
import Derived.Test.YtogkjlfinjlngaaKB
import Derived.Test.YtogkjlfinjlngaaWWords
import Derived.Test.YtogkjlfinjlngaaWLast
import Derived.Test.YtogkjlfinjlngaaWTab
import Derived.Test.YtogkjlfinjlngaaWFour
import Derived.Test.YtogkjlfinjlngaaWQPut
import Derived.Test.YtogkjlfinjlngaaWApart
import Derived.Test.YtogkjlfinjlngaaWArr
import Derived.Test.YtogkjlfinjlngaaWZeros
import Derived.Test.YtogkjlfinjlngaaWFoot
import Derived.Test.YtogkjlfinjlngaaWKept
import Derived.Test.YtogkjlfinjlngaaWShare
import Derived.Test.YtogkjlfinjlngaaWN
import Derived.Test.YtogkjlfinjlngaaWFootNe
import Derived.Test.YtogkjlfinjlngaaWAt
import Derived.Test.YtogkjlfinjlngaaWEqStruct
import Derived.Test.YtogkjlfinjlngaaWRepsOne
import Derived.Test.YtogkjlfinjlngaaWInv
import Derived.Test.YtogkjlfinjlngaaWInvWords
import Derived.Test.YtogkjlfinjlngaaWGuard
import Derived.Test.YtogkjlfinjlngaaWNEv
import Derived.Test.YtogkjlfinjlngaaWMore
namespace Go.Proofs.Ytogkjlfinjlngaa.XU
open Go.RowKit Go.Proofs.Ytogkjlfinjlngaa.Ix Go.Proofs.YtogkjlfinjlngaaW.PrintWords Go.Proofs.YtogkjlfinjlngaaW.PrintLast Go.Proofs.YtogkjlfinjlngaaW.PrintMore
attribute [local go_sem] max2_int min2_int max_two min_two max_three min_three max_four min_four   -- for this text's walks alone
set_option linter.unusedVariables false
set_option linter.unusedSimpArgs false



def errW : Option Int → Value
  | none => .nilIface
  | some c => .iface 0 (.int .i64 c)
theorem errW_none : errW none = .nilIface := rfl
theorem errW_some (c : Int) : errW (some c) = .iface 0 (.int .i64 c) := rfl

theorem info5 : (Try.prog.info? 5).map (fun i => (i.zero, i.size, i.bytes)) = some (some (.int .u8 0), 1, 1) := by kernel_rfl
-- the values' own types

end Go.Proofs.Ytogkjlfinjlngaa.XU
