/- Go functions of the program as plain Lean functions with a number of rounds, and that the calls come to exactly their answers. Conditions: those in each theorem. Written by a program of this project (wip/tools/xprint.py). -/
import Derived.Test.YtijmmnlhbbmhlaaProg
import Derived.Below
import Derived.Deep.Draws
import Derived.Deep.AppendLies
import Derived.Maps.AppendAt
import Derived.OwnWalk
import Derived.Laws.BytesArg
import Derived.Laws.MakeOwn
import Derived.Laws.OwnMore
import Derived.Deep.OwnRows
import Derived.Tactics
import Derived.Lib.ConvBytes
import Derived.Laws.Slices
import Derived.WalkKit
import Derived.KernelRfl
import Derived.RowKit3
import Derived.Deep.LoopGhost
import Derived.Deep.QuietTactic
import Derived.BigQuiet
import Derived.WideLaws
import Derived.Deep.DeepCutAuto
import Derived.Deep.CutBlock
import Derived.Deep.RegionHeld3
import Derived.Laws.Rows
import Derived.Lib.AppendStr
import Derived.ArgAppend
import Derived.Laws.IdiomCopy
import Derived.OrdersHeld
import Derived.Laws.BitsLemmas
import Derived.RowKit
import Derived.Test.YtijmmnlhbbmhlaaIx
import Derived.Test.YtijmmnlhbbmhlaaWWords
import Derived.Test.YtijmmnlhbbmhlaaWLast
import Derived.Test.YtijmmnlhbbmhlaaWTab
import Derived.Test.YtijmmnlhbbmhlaaWFour
import Derived.Test.YtijmmnlhbbmhlaaWQPut
import Derived.Test.YtijmmnlhbbmhlaaWApart
import Derived.Test.YtijmmnlhbbmhlaaWArr
import Derived.Test.YtijmmnlhbbmhlaaWZeros
import Derived.Test.YtijmmnlhbbmhlaaWFoot
import Derived.Test.YtijmmnlhbbmhlaaWKept
import Derived.Test.YtijmmnlhbbmhlaaWShare
import Derived.Test.YtijmmnlhbbmhlaaWN
import Derived.Test.YtijmmnlhbbmhlaaWFootNe
import Derived.Test.YtijmmnlhbbmhlaaWAt
import Derived.Test.YtijmmnlhbbmhlaaWEqStruct
import Derived.Test.YtijmmnlhbbmhlaaWRepsOne
import Derived.Test.YtijmmnlhbbmhlaaWInv
import Derived.Test.YtijmmnlhbbmhlaaWInvWords
import Derived.Test.YtijmmnlhbbmhlaaWGuard
import Derived.Test.YtijmmnlhbbmhlaaWNEv
import Derived.Test.YtijmmnlhbbmhlaaWMore
namespace Go.Proofs.Ytijmmnlhbbmhlaa.XE
open Go.RowKit Go.Proofs.Ytijmmnlhbbmhlaa.Ix Go.Proofs.YtijmmnlhbbmhlaaW.PrintWords Go.Proofs.YtijmmnlhbbmhlaaW.PrintLast Go.Proofs.YtijmmnlhbbmhlaaW.PrintMore
attribute [local go_sem] max2_int min2_int max_two min_two max_three min_three max_four min_four   -- for this text's walks alone
set_option linter.unusedVariables false
set_option linter.unusedSimpArgs false



def errW : Option Int → Value
  | none => .nilIface
  | some c => .iface 0 (.int .i64 c)
theorem errW_none : errW none = .nilIface := rfl
theorem errW_some (c : Int) : errW (some c) = .iface 0 (.int .i64 c) := rfl

theorem info3 : (Try.prog.info? 3).map (fun i => (i.zero, i.size, i.bytes)) = some (some (.int .i64 0), 1, 8) := by kernel_rfl
theorem info22 : (Try.prog.info? 22).map (fun i => (i.zero, i.size, i.bytes)) = some (some (.int .u32 0), 1, 4) := by kernel_rfl
-- the values' own types

end Go.Proofs.Ytijmmnlhbbmhlaa.XE
