-- Written for this claim by a turned copy of the kit's print (wip/printx/mk.py). By an AI agent.
import Derived.Test.YtfdhjnfpppafaaaProg
import Derived.Below
import Derived.Deep.Draws
import Derived.Deep.AppendLies
import Derived.Maps.AppendAt
import Derived.OwnWalk
import Derived.Laws.BytesArg
import Derived.Laws.MakeOwn
import Derived.Laws.OwnMore
import Derived.Deep.OwnRows
import Derived.Tactics
import Derived.Lib.ConvBytes
import Derived.Laws.Slices
import Derived.WalkKit
import Derived.KernelRfl
import Derived.RowKit3
import Derived.Deep.LoopGhost
import Derived.Deep.QuietTactic
import Derived.BigQuiet
import Derived.WideLaws
import Derived.Deep.DeepCutAuto
import Derived.Deep.CutBlock
import Derived.Deep.RegionHeld3
import Derived.Laws.Rows
import Derived.Lib.AppendStr
import Derived.ArgAppend
import Derived.Laws.IdiomCopy
import Derived.OrdersHeld
import Derived.Laws.BitsLemmas
import Derived.RowKit
import Derived.Test.YtfdhjnfpppafaaaWWords
import Derived.Test.YtfdhjnfpppafaaaWLast
import Derived.Test.YtfdhjnfpppafaaaWTab
import Derived.Test.YtfdhjnfpppafaaaWFour
import Derived.Test.YtfdhjnfpppafaaaWQPut
import Derived.Test.YtfdhjnfpppafaaaWApart
import Derived.Test.YtfdhjnfpppafaaaWArr
import Derived.Test.YtfdhjnfpppafaaaWZeros
import Derived.Test.YtfdhjnfpppafaaaWFoot
import Derived.Test.YtfdhjnfpppafaaaWKept
import Derived.Test.YtfdhjnfpppafaaaWShare
import Derived.Test.YtfdhjnfpppafaaaWN
import Derived.Test.YtfdhjnfpppafaaaWFootNe
import Derived.Test.YtfdhjnfpppafaaaWAt
import Derived.Test.YtfdhjnfpppafaaaWEqStruct
import Derived.Test.YtfdhjnfpppafaaaWRepsOne
import Derived.Test.YtfdhjnfpppafaaaWInv
import Derived.Test.YtfdhjnfpppafaaaWInvWords
import Derived.Test.YtfdhjnfpppafaaaWGuard
import Derived.Test.YtfdhjnfpppafaaaWNEv
import Derived.Test.YtfdhjnfpppafaaaWMore
namespace Go.Proofs.Ytfdhjnfpppafaaa.PTimecodeBases
open Go.RowKit Go.Proofs.YtfdhjnfpppafaaaW.PrintWords Go.Proofs.YtfdhjnfpppafaaaW.PrintLast Go.Proofs.YtfdhjnfpppafaaaW.PrintMore
attribute [local go_sem] max2_int min2_int max_two min_two max_three min_three max_four min_four   -- for this text's walks alone
set_option linter.unusedVariables false
set_option linter.unusedSimpArgs false



def errW : Option Int → Value
  | none => .nilIface
  | some c => .iface 0 (.int .i64 c)
theorem errW_none : errW none = .nilIface := rfl
theorem errW_some (c : Int) : errW (some c) = .iface 0 (.int .i64 c) := rfl

theorem info2 : (Try.prog.info? 2).map (fun i => (i.zero, i.size, i.bytes)) = some (some (.int .i64 0), 1, 8) := by kernel_rfl
theorem info3 : (Try.prog.info? 3).map (fun i => (i.zero, i.size, i.bytes)) = some (some (.int .i64 0), 1, 8) := by kernel_rfl
theorem info5 : (Try.prog.info? 5).map (fun i => (i.zero, i.size, i.bytes)) = some (some (.int .u8 0), 1, 1) := by kernel_rfl
-- the values' own types

end Go.Proofs.Ytfdhjnfpppafaaa.PTimecodeBases
