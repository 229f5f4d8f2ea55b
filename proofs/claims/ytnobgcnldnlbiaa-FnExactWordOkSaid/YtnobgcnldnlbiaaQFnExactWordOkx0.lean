/- Written by a program (wip/tools/own_print.py) out of the walk that the kit's printer made; turned where it fell. -/
-- PRINTED by print.py (a twelfth state) out of the translation. Not trusted: Lean checks it.
import Derived.Test.YtnobgcnldnlbiaaProg
import Derived.Below
import Derived.Deep.Draws
import Derived.Deep.AppendLies
import Derived.Maps.AppendAt
import Derived.OwnWalk
import Derived.Laws.BytesArg
import Derived.Laws.MakeOwn
import Derived.Laws.OwnMore
import Derived.Deep.OwnRows
import Derived.Tactics
import Derived.Lib.ConvBytes
import Derived.Laws.Slices
import Derived.WalkKit
import Derived.KernelRfl
import Derived.RowKit3
import Derived.Deep.LoopGhost
import Derived.Deep.QuietTactic
import Derived.BigQuiet
import Derived.WideLaws
import Derived.Deep.DeepCutAuto
import Derived.Deep.CutBlock
import Derived.Deep.RegionHeld3
import Derived.Laws.Rows
import Derived.Lib.AppendStr
import Derived.ArgAppend
import Derived.Laws.IdiomCopy
import Derived.OrdersHeld
import Derived.Laws.BitsLemmas
import Derived.RowKit
import Derived.Test.YtnobgcnldnlbiaaWWords
import Derived.Test.YtnobgcnldnlbiaaWLast
import Derived.Test.YtnobgcnldnlbiaaWTab
import Derived.Test.YtnobgcnldnlbiaaWFour
import Derived.Test.YtnobgcnldnlbiaaWQPut
import Derived.Test.YtnobgcnldnlbiaaWApart
import Derived.Test.YtnobgcnldnlbiaaWArr
import Derived.Test.YtnobgcnldnlbiaaWZeros
import Derived.Test.YtnobgcnldnlbiaaWFoot
import Derived.Test.YtnobgcnldnlbiaaWKept
import Derived.Test.YtnobgcnldnlbiaaWShare
import Derived.Test.YtnobgcnldnlbiaaWN
import Derived.Test.YtnobgcnldnlbiaaWFootNe
import Derived.Test.YtnobgcnldnlbiaaWAt
import Derived.Test.YtnobgcnldnlbiaaWEqStruct
import Derived.Test.YtnobgcnldnlbiaaWRepsOne
import Derived.Test.YtnobgcnldnlbiaaWInv
import Derived.Test.YtnobgcnldnlbiaaWInvWords
import Derived.Test.YtnobgcnldnlbiaaWGuard
import Derived.Test.YtnobgcnldnlbiaaWNEv
import Derived.Test.YtnobgcnldnlbiaaWMore
namespace Go.Proofs.Ytnobgcnldnlbiaa.QFnExactWordOk
open Go.RowKit Go.Proofs.YtnobgcnldnlbiaaW.PrintWords Go.Proofs.YtnobgcnldnlbiaaW.PrintLast Go.Proofs.YtnobgcnldnlbiaaW.PrintMore
attribute [local go_sem] max2_int min2_int max_two min_two max_three min_three max_four min_four   -- for this text's walks alone
set_option linter.unusedVariables false
set_option linter.unusedSimpArgs false



def errW : Option Int → Value
 | none => .nilIface
 | some c => .iface 0 (.int .i64 c)
theorem errW_none : errW none = .nilIface := rfl
theorem errW_some (c : Int) : errW (some c) = .iface 0 (.int .i64 c) := rfl

theorem info5 : (Try.prog.info? 5).map (fun i => (i.zero, i.size, i.bytes)) = some (some (.int .u8 0), 1, 1) := by kernel_rfl
-- the values' own types

end Go.Proofs.Ytnobgcnldnlbiaa.QFnExactWordOk
