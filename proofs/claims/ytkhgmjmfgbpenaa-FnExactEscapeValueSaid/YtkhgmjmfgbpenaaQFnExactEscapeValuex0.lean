/- Written by a program (wip/tools/own_print.py) out of the walk that the kit's printer made; turned where it fell. -/
-- PRINTED by print.py (a twelfth state) out of the translation. Not trusted: Lean checks it.
import Derived.Test.YtkhgmjmfgbpenaaProg
import Derived.Below
import Derived.Deep.Draws
import Derived.Deep.AppendLies
import Derived.Maps.AppendAt
import Derived.OwnWalk
import Derived.Laws.BytesArg
import Derived.Laws.MakeOwn
import Derived.Laws.OwnMore
import Derived.Deep.OwnRows
import Derived.Tactics
import Derived.Lib.ConvBytes
import Derived.Laws.Slices
import Derived.WalkKit
import Derived.KernelRfl
import Derived.RowKit3
import Derived.Deep.LoopGhost
import Derived.Deep.QuietTactic
import Derived.BigQuiet
import Derived.WideLaws
import Derived.Deep.DeepCutAuto
import Derived.Deep.CutBlock
import Derived.Deep.RegionHeld3
import Derived.Laws.Rows
import Derived.Lib.AppendStr
import Derived.ArgAppend
import Derived.Laws.IdiomCopy
import Derived.OrdersHeld
import Derived.Laws.BitsLemmas
import Derived.RowKit
import Derived.Test.YtkhgmjmfgbpenaaVWords
import Derived.Test.YtkhgmjmfgbpenaaVLast
import Derived.Test.YtkhgmjmfgbpenaaVTab
import Derived.Test.YtkhgmjmfgbpenaaVFour
import Derived.Test.YtkhgmjmfgbpenaaVQPut
import Derived.Test.YtkhgmjmfgbpenaaVApart
import Derived.Test.YtkhgmjmfgbpenaaVArr
import Derived.Test.YtkhgmjmfgbpenaaVZeros
import Derived.Test.YtkhgmjmfgbpenaaVFoot
import Derived.Test.YtkhgmjmfgbpenaaVKept
import Derived.Test.YtkhgmjmfgbpenaaVShare
import Derived.Test.YtkhgmjmfgbpenaaVN
import Derived.Test.YtkhgmjmfgbpenaaVFootNe
import Derived.Test.YtkhgmjmfgbpenaaVAt
import Derived.Test.YtkhgmjmfgbpenaaVEqStruct
import Derived.Test.YtkhgmjmfgbpenaaVRepsOne
import Derived.Test.YtkhgmjmfgbpenaaVInv
import Derived.Test.YtkhgmjmfgbpenaaVInvWords
import Derived.Test.YtkhgmjmfgbpenaaVGuard
import Derived.Test.YtkhgmjmfgbpenaaVNEv
import Derived.Test.YtkhgmjmfgbpenaaVMore
namespace Go.Proofs.Ytkhgmjmfgbpenaa.QFnExactEscapeValue
open Go.RowKit Go.Proofs.YtkhgmjmfgbpenaaV.PrintWords Go.Proofs.YtkhgmjmfgbpenaaV.PrintLast Go.Proofs.YtkhgmjmfgbpenaaV.PrintMore
attribute [local go_sem] max2_int min2_int max_two min_two max_three min_three max_four min_four   -- for this text's walks alone
set_option linter.unusedVariables false
set_option linter.unusedSimpArgs false



def errW : Option Int → Value
  | none => .nilIface
  | some c => .iface 0 (.int .i64 c)
theorem errW_none : errW none = .nilIface := rfl
theorem errW_some (c : Int) : errW (some c) = .iface 0 (.int .i64 c) := rfl

theorem info5 : (Try.prog.info? 5).map (fun i => (i.zero, i.size, i.bytes)) = some (some (.int .u8 0), 1, 1) := by kernel_rfl
-- the values' own types

end Go.Proofs.Ytkhgmjmfgbpenaa.QFnExactEscapeValue
