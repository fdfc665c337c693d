-- Written by a program of the session (wip/tools/myprint.py) over the kit's printer; checked by Lean.
import Derived.Test.YtoamkepelnphaaaProg
import Derived.Below
import Derived.Deep.Draws
import Derived.Deep.AppendLies
import Derived.Maps.AppendAt
import Derived.OwnWalk
import Derived.Laws.BytesArg
import Derived.Laws.MakeOwn
import Derived.Laws.OwnMore
import Derived.Deep.OwnRows
import Derived.Tactics
import Derived.Lib.ConvBytes
import Derived.Laws.Slices
import Derived.WalkKit
import Derived.KernelRfl
import Derived.RowKit3
import Derived.Deep.LoopGhost
import Derived.Deep.QuietTactic
import Derived.BigQuiet
import Derived.WideLaws
import Derived.Deep.DeepCutAuto
import Derived.Deep.CutBlock
import Derived.Deep.RegionHeld3
import Derived.Laws.Rows
import Derived.Lib.AppendStr
import Derived.ArgAppend
import Derived.Laws.IdiomCopy
import Derived.OrdersHeld
import Derived.Laws.BitsLemmas
import Derived.RowKit
import Derived.Test.YtoamkepelnphaaaWWords
import Derived.Test.YtoamkepelnphaaaWLast
import Derived.Test.YtoamkepelnphaaaWTab
import Derived.Test.YtoamkepelnphaaaWFour
import Derived.Test.YtoamkepelnphaaaWQPut
import Derived.Test.YtoamkepelnphaaaWApart
import Derived.Test.YtoamkepelnphaaaWArr
import Derived.Test.YtoamkepelnphaaaWZeros
import Derived.Test.YtoamkepelnphaaaWFoot
import Derived.Test.YtoamkepelnphaaaWKept
import Derived.Test.YtoamkepelnphaaaWShare
import Derived.Test.YtoamkepelnphaaaWN
import Derived.Test.YtoamkepelnphaaaWFootNe
import Derived.Test.YtoamkepelnphaaaWAt
import Derived.Test.YtoamkepelnphaaaWEqStruct
import Derived.Test.YtoamkepelnphaaaWRepsOne
import Derived.Test.YtoamkepelnphaaaWInv
import Derived.Test.YtoamkepelnphaaaWInvWords
import Derived.Test.YtoamkepelnphaaaWGuard
import Derived.Test.YtoamkepelnphaaaWNEv
import Derived.Test.YtoamkepelnphaaaWMore
namespace Go.Proofs.Ytoamkepelnphaaa.PIeeeQuantizes
open Go.RowKit Go.Proofs.YtoamkepelnphaaaW.PrintWords Go.Proofs.YtoamkepelnphaaaW.PrintLast Go.Proofs.YtoamkepelnphaaaW.PrintMore
attribute [local go_sem] max2_int min2_int max_two min_two max_three min_three max_four min_four   -- for this text's walks alone
set_option linter.unusedVariables false
set_option linter.unusedSimpArgs false



def errW : Option Int → Value
  | none => .nilIface
  | some c => .iface 0 (.int .i64 c)
theorem errW_none : errW none = .nilIface := rfl
theorem errW_some (c : Int) : errW (some c) = .iface 0 (.int .i64 c) := rfl

theorem info3 : (Try.prog.info? 3).map (fun i => (i.zero, i.size, i.bytes)) = some (some (.int .i64 0), 1, 8) := by kernel_rfl
theorem info23 : (Try.prog.info? 23).map (fun i => (i.zero, i.size, i.bytes)) = some (some (.int .u64 0), 1, 8) := by kernel_rfl
-- the values' own types

end Go.Proofs.Ytoamkepelnphaaa.PIeeeQuantizes
