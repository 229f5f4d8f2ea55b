/-
  No cell of these rows narrows 'for every input' (looked for: loops, veiled, ifaces, maps, wideKeys, modest, calm, conditions, laid).
  DERIVED. THE GIVEN ROWS OF THIS SEAT. 4 by the template 'for every input the law returns true; each argument reads behind the call as it read before'; 0 by the template 'total and deterministic' (their statements: YtjghahkecglgdaaTotals.lean).
  GIVEN WITH THE SEED: the statements are not yours to turn. If you find one false, say at which input.
  Laid BY PROGRAM, IN A SANDBOX (cutbox-rows.mjs): the forced cells as the released guide's own fill.sh prints them over the translation 00e6fc72b14bfcea… (all of the seat's roots in one cut). By AI agents, Wed Nov 11 2026. No macro, syntax, notation, axiom, sorry.
-/
import Derived.Test.YtjghahkecglgdaaChecked
import GoSem.Claim
import GoSem.ClaimJoined
import GoSem.ClaimMapViews
import Derived.JoinedTies
import Derived.KernelRfl
namespace Go.Proofs.Ytjghahkecglgdaa
/- THE CELL 'sum', in the pinned program and in every row, IS THE sha256 OF THE DUMP (.gsa) THAT YtjghahkecglgdaaProg.lean LOADS. Nothing in Lean hashes anything: it is a label: what it is worth is what the hold of that sum in a sandbox is worth. -/
noncomputable def Try.pinned : Pinned := { name := "ytjghahkecglgdaa", sum := "00e6fc72b14bfcea96580310c5868d66e7253b897208d9236266acc584c60225", checked := Try.checked }
namespace Rows
def none {H : Type} : Left H := { results := [], args := [] }

/-- 'laws.FnExactInitial': WHATEVER THE INPUT: true; the input reads as it did. -/
def fnExactInitialSpec : ChangeSpec := { name := "fnExactInitial", fn := fun _ => fun
  | [] => { results := [.lit (.bool true)], args := [] }
  | _ => none }
def fnExactInitialRow : OpenClaim := { program := "ytjghahkecglgdaa", sum := "00e6fc72b14bfcea96580310c5868d66e7253b897208d9236266acc584c60225", func := "loop.example/g00011/laws.FnExactInitial", spec := "fnExactInitial", plainKeys := false, apart := false }
def FnExactInitialSaid : Prop := fnExactInitialRow.holds Try.pinned (OpenSpec.ofChange fnExactInitialSpec)

/-- ITS FALSE NEIGHBOUR: 'it returns false'. Refute it at one input. -/
def fnExactInitialWrong : ChangeSpec := { name := "fnExactInitial", fn := fun _ => fun
  | [] => { results := [.lit (.bool false)], args := [] }
  | _ => none }
def FnExactInitialWrongFalsely : Prop := fnExactInitialRow.holds Try.pinned (OpenSpec.ofChange fnExactInitialWrong)

/-- 'laws.FnExactLiveOf': WHATEVER THE INPUT: true; the input reads as it did. -/
def fnExactLiveOfSpec : ChangeSpec := { name := "fnExactLiveOf", fn := fun _ => fun
  | [d1, d2] => { results := [.lit (.bool true)], args := [d1, d2] }
  | _ => none }
def fnExactLiveOfRow : OpenClaim := { program := "ytjghahkecglgdaa", sum := "00e6fc72b14bfcea96580310c5868d66e7253b897208d9236266acc584c60225", func := "loop.example/g00011/laws.FnExactLiveOf", spec := "fnExactLiveOf", plainKeys := false, apart := false }
def FnExactLiveOfSaid : Prop := fnExactLiveOfRow.holds Try.pinned (OpenSpec.ofChange fnExactLiveOfSpec)

/-- ITS FALSE NEIGHBOUR: 'it returns false'. Refute it at one input. -/
def fnExactLiveOfWrong : ChangeSpec := { name := "fnExactLiveOf", fn := fun _ => fun
  | [d1, d2] => { results := [.lit (.bool false)], args := [d1, d2] }
  | _ => none }
def FnExactLiveOfWrongFalsely : Prop := fnExactLiveOfRow.holds Try.pinned (OpenSpec.ofChange fnExactLiveOfWrong)

/-- 'laws.FnExactShape': WHATEVER THE INPUT: true; the input reads as it did. -/
def fnExactShapeSpec : ChangeSpec := { name := "fnExactShape", fn := fun _ => fun
  | [d1, d2] => { results := [.lit (.bool true)], args := [d1, d2] }
  | _ => none }
def fnExactShapeRow : OpenClaim := { program := "ytjghahkecglgdaa", sum := "00e6fc72b14bfcea96580310c5868d66e7253b897208d9236266acc584c60225", func := "loop.example/g00011/laws.FnExactShape", spec := "fnExactShape", unfollowed := true, recurses := true, plainKeys := false, apart := false }
def FnExactShapeSaid : Prop := fnExactShapeRow.holds Try.pinned (OpenSpec.ofChange fnExactShapeSpec)

/-- ITS FALSE NEIGHBOUR: 'it returns false'. Refute it at one input. -/
def fnExactShapeWrong : ChangeSpec := { name := "fnExactShape", fn := fun _ => fun
  | [d1, d2] => { results := [.lit (.bool false)], args := [d1, d2] }
  | _ => none }
def FnExactShapeWrongFalsely : Prop := fnExactShapeRow.holds Try.pinned (OpenSpec.ofChange fnExactShapeWrong)

/-- 'laws.FnExactSpecificity': WHATEVER THE INPUT: true; the input reads as it did. -/
def fnExactSpecificitySpec : ChangeSpec := { name := "fnExactSpecificity", fn := fun _ => fun
  | [d] => { results := [.lit (.bool true)], args := [d] }
  | _ => none }
def fnExactSpecificityRow : OpenClaim := { program := "ytjghahkecglgdaa", sum := "00e6fc72b14bfcea96580310c5868d66e7253b897208d9236266acc584c60225", func := "loop.example/g00011/laws.FnExactSpecificity", spec := "fnExactSpecificity", plainKeys := false, apart := false }
def FnExactSpecificitySaid : Prop := fnExactSpecificityRow.holds Try.pinned (OpenSpec.ofChange fnExactSpecificitySpec)

/-- ITS FALSE NEIGHBOUR: 'it returns false'. Refute it at one input. -/
def fnExactSpecificityWrong : ChangeSpec := { name := "fnExactSpecificity", fn := fun _ => fun
  | [d] => { results := [.lit (.bool false)], args := [d] }
  | _ => none }
def FnExactSpecificityWrongFalsely : Prop := fnExactSpecificityRow.holds Try.pinned (OpenSpec.ofChange fnExactSpecificityWrong)

/- THE SECOND FORM. 'bulk': how many values and letters a reading holds, each counted each time it is reached (what is shared counts as often as it is met; a slice's spare places count too). A statement '..UptoSaid' is the law's where the arguments, and the package variables that the reading takes, are together of bulk at most 1048576: NARROWER than '..Said'. Prove '..Said' where nothing that the law and all that it calls make is longer than what came in: it says more and counts as full. Else prove '..UptoSaid'. A law counts once. -/
mutual
def uptoBulk {H : Type} : DataW H → Nat
  | .lit (.string bytes) => bytes.length + 1
  | .lit _ => 1
  | .nil => 1
  | .ptr d => uptoBulk d + 1
  | .slice elems spare => uptoBulkAll elems + uptoBulkAll spare + 1
  | .agg parts => uptoBulkAll parts + 1
  | .iface _ d => uptoBulk d + 1
  | .map entries => uptoBulkEntries entries + 1
  | .held _ => 1
def uptoBulkAll {H : Type} : List (DataW H) → Nat
  | [] => 0
  | d :: r => uptoBulk d + uptoBulkAll r
def uptoBulkEntries {H : Type} : List (Lit × DataW H) → Nat
  | [] => 0
  | x :: r => uptoBulkEntry x + uptoBulkEntries r
def uptoBulkEntry {H : Type} : Lit × DataW H → Nat
  | (.string bytes, d) => bytes.length + uptoBulk d + 1
  | (_, d) => uptoBulk d + 1
 end
def uptoSmall : (H : Type) → List (DataW H) → Bool := fun _ ds => decide (uptoBulkAll ds ≤ 1048576)
def OpenSpec.upto (s : _root_.Go.ChangeSpec) : _root_.Go.OpenSpec := { _root_.Go.OpenSpec.ofChange s with cond := some uptoSmall }

/-- 'laws.FnExactInitial', WHERE WHAT IT READS IS OF BULK AT MOST 1048576: true; the input reads as it did. -/
def fnExactInitialUptoRow : OpenClaim := { program := "ytjghahkecglgdaa", sum := "00e6fc72b14bfcea96580310c5868d66e7253b897208d9236266acc584c60225", func := "loop.example/g00011/laws.FnExactInitial", spec := "fnExactInitial", plainKeys := false, apart := false, narrowed := true }
def FnExactInitialUptoSaid : Prop := fnExactInitialUptoRow.holds Try.pinned (OpenSpec.upto fnExactInitialSpec)

/-- 'laws.FnExactLiveOf', WHERE WHAT IT READS IS OF BULK AT MOST 1048576: true; the input reads as it did. -/
def fnExactLiveOfUptoRow : OpenClaim := { program := "ytjghahkecglgdaa", sum := "00e6fc72b14bfcea96580310c5868d66e7253b897208d9236266acc584c60225", func := "loop.example/g00011/laws.FnExactLiveOf", spec := "fnExactLiveOf", plainKeys := false, apart := false, narrowed := true }
def FnExactLiveOfUptoSaid : Prop := fnExactLiveOfUptoRow.holds Try.pinned (OpenSpec.upto fnExactLiveOfSpec)

/-- 'laws.FnExactShape', WHERE WHAT IT READS IS OF BULK AT MOST 1048576: true; the input reads as it did. -/
def fnExactShapeUptoRow : OpenClaim := { program := "ytjghahkecglgdaa", sum := "00e6fc72b14bfcea96580310c5868d66e7253b897208d9236266acc584c60225", func := "loop.example/g00011/laws.FnExactShape", spec := "fnExactShape", unfollowed := true, recurses := true, plainKeys := false, apart := false, narrowed := true }
def FnExactShapeUptoSaid : Prop := fnExactShapeUptoRow.holds Try.pinned (OpenSpec.upto fnExactShapeSpec)

/-- 'laws.FnExactSpecificity', WHERE WHAT IT READS IS OF BULK AT MOST 1048576: true; the input reads as it did. -/
def fnExactSpecificityUptoRow : OpenClaim := { program := "ytjghahkecglgdaa", sum := "00e6fc72b14bfcea96580310c5868d66e7253b897208d9236266acc584c60225", func := "loop.example/g00011/laws.FnExactSpecificity", spec := "fnExactSpecificity", plainKeys := false, apart := false, narrowed := true }
def FnExactSpecificityUptoSaid : Prop := fnExactSpecificityUptoRow.holds Try.pinned (OpenSpec.upto fnExactSpecificitySpec)

end Rows
end Go.Proofs.Ytjghahkecglgdaa
