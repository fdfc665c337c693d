-- Written by a program of the session (wip/tools/myprint.py) over the kit's printer; checked by Lean.
import Derived.Test.YtikpmojofdndnaaProg
import Derived.Below
import Derived.Deep.Draws
import Derived.Deep.AppendLies
import Derived.Maps.AppendAt
import Derived.OwnWalk
import Derived.Laws.BytesArg
import Derived.Laws.MakeOwn
import Derived.Laws.OwnMore
import Derived.Deep.OwnRows
import Derived.Tactics
import Derived.Lib.ConvBytes
import Derived.Laws.Slices
import Derived.WalkKit
import Derived.KernelRfl
import Derived.RowKit3
import Derived.Deep.LoopGhost
import Derived.Deep.QuietTactic
import Derived.BigQuiet
import Derived.WideLaws
import Derived.Deep.DeepCutAuto
import Derived.Deep.CutBlock
import Derived.Deep.RegionHeld3
import Derived.Laws.Rows
import Derived.Lib.AppendStr
import Derived.ArgAppend
import Derived.Laws.IdiomCopy
import Derived.OrdersHeld
import Derived.Laws.BitsLemmas
import Derived.RowKit
import Derived.Test.YtikpmojofdndnaaWWords
import Derived.Test.YtikpmojofdndnaaWLast
import Derived.Test.YtikpmojofdndnaaWTab
import Derived.Test.YtikpmojofdndnaaWFour
import Derived.Test.YtikpmojofdndnaaWQPut
import Derived.Test.YtikpmojofdndnaaWApart
import Derived.Test.YtikpmojofdndnaaWArr
import Derived.Test.YtikpmojofdndnaaWZeros
import Derived.Test.YtikpmojofdndnaaWFoot
import Derived.Test.YtikpmojofdndnaaWKept
import Derived.Test.YtikpmojofdndnaaWShare
import Derived.Test.YtikpmojofdndnaaWN
import Derived.Test.YtikpmojofdndnaaWFootNe
import Derived.Test.YtikpmojofdndnaaWAt
import Derived.Test.YtikpmojofdndnaaWEqStruct
import Derived.Test.YtikpmojofdndnaaWRepsOne
import Derived.Test.YtikpmojofdndnaaWInv
import Derived.Test.YtikpmojofdndnaaWInvWords
import Derived.Test.YtikpmojofdndnaaWGuard
import Derived.Test.YtikpmojofdndnaaWNEv
import Derived.Test.YtikpmojofdndnaaWMore
namespace Go.Proofs.Ytikpmojofdndnaa.PGridTiles
open Go.RowKit Go.Proofs.YtikpmojofdndnaaW.PrintWords Go.Proofs.YtikpmojofdndnaaW.PrintLast Go.Proofs.YtikpmojofdndnaaW.PrintMore
attribute [local go_sem] max2_int min2_int max_two min_two max_three min_three max_four min_four   -- for this text's walks alone
set_option linter.unusedVariables false
set_option linter.unusedSimpArgs false



def errW : Option Int → Value
  | none => .nilIface
  | some c => .iface 0 (.int .i64 c)
theorem errW_none : errW none = .nilIface := rfl
theorem errW_some (c : Int) : errW (some c) = .iface 0 (.int .i64 c) := rfl

theorem info3 : (Try.prog.info? 3).map (fun i => (i.zero, i.size, i.bytes)) = some (some (.int .i64 0), 1, 8) := by kernel_rfl
-- the values' own types

end Go.Proofs.Ytikpmojofdndnaa.PGridTiles
