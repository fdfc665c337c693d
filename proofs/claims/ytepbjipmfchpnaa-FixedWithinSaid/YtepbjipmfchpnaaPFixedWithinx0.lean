-- Written by a program of the session (wip/tools/myprint.py) over the kit's printer; checked by Lean.
import Derived.Test.YtepbjipmfchpnaaProg
import Derived.Below
import Derived.Deep.Draws
import Derived.Deep.AppendLies
import Derived.Maps.AppendAt
import Derived.OwnWalk
import Derived.Laws.BytesArg
import Derived.Laws.MakeOwn
import Derived.Laws.OwnMore
import Derived.Deep.OwnRows
import Derived.Tactics
import Derived.Lib.ConvBytes
import Derived.Laws.Slices
import Derived.WalkKit
import Derived.KernelRfl
import Derived.RowKit3
import Derived.Deep.LoopGhost
import Derived.Deep.QuietTactic
import Derived.BigQuiet
import Derived.WideLaws
import Derived.Deep.DeepCutAuto
import Derived.Deep.CutBlock
import Derived.Deep.RegionHeld3
import Derived.Laws.Rows
import Derived.Lib.AppendStr
import Derived.ArgAppend
import Derived.Laws.IdiomCopy
import Derived.OrdersHeld
import Derived.Laws.BitsLemmas
import Derived.RowKit
import Derived.Test.YtepbjipmfchpnaaWWords
import Derived.Test.YtepbjipmfchpnaaWLast
import Derived.Test.YtepbjipmfchpnaaWTab
import Derived.Test.YtepbjipmfchpnaaWFour
import Derived.Test.YtepbjipmfchpnaaWQPut
import Derived.Test.YtepbjipmfchpnaaWApart
import Derived.Test.YtepbjipmfchpnaaWArr
import Derived.Test.YtepbjipmfchpnaaWZeros
import Derived.Test.YtepbjipmfchpnaaWFoot
import Derived.Test.YtepbjipmfchpnaaWKept
import Derived.Test.YtepbjipmfchpnaaWShare
import Derived.Test.YtepbjipmfchpnaaWN
import Derived.Test.YtepbjipmfchpnaaWFootNe
import Derived.Test.YtepbjipmfchpnaaWAt
import Derived.Test.YtepbjipmfchpnaaWEqStruct
import Derived.Test.YtepbjipmfchpnaaWRepsOne
import Derived.Test.YtepbjipmfchpnaaWInv
import Derived.Test.YtepbjipmfchpnaaWInvWords
import Derived.Test.YtepbjipmfchpnaaWGuard
import Derived.Test.YtepbjipmfchpnaaWNEv
import Derived.Test.YtepbjipmfchpnaaWMore
namespace Go.Proofs.Ytepbjipmfchpnaa.PFixedWithin
open Go.RowKit Go.Proofs.YtepbjipmfchpnaaW.PrintWords Go.Proofs.YtepbjipmfchpnaaW.PrintLast Go.Proofs.YtepbjipmfchpnaaW.PrintMore
attribute [local go_sem] max2_int min2_int max_two min_two max_three min_three max_four min_four   -- for this text's walks alone
set_option linter.unusedVariables false
set_option linter.unusedSimpArgs false



def errW : Option Int → Value
  | none => .nilIface
  | some c => .iface 0 (.int .i64 c)
theorem errW_none : errW none = .nilIface := rfl
theorem errW_some (c : Int) : errW (some c) = .iface 0 (.int .i64 c) := rfl

theorem info3 : (Try.prog.info? 3).map (fun i => (i.zero, i.size, i.bytes)) = some (some (.int .i64 0), 1, 8) := by kernel_rfl
-- the values' own types

end Go.Proofs.Ytepbjipmfchpnaa.PFixedWithin
