/-
  No cell of these rows narrows 'for every input' (looked for: loops, veiled, ifaces, maps, wideKeys, modest, calm, conditions, laid).
  DERIVED. THE GIVEN ROWS OF THIS SEAT. 12 by the template 'for every input the law returns true; each argument reads behind the call as it read before'; 0 by the template 'total and deterministic' (their statements: YtnobgcnldnlbiaaTotals.lean).
  GIVEN WITH THE SEED: the statements are not yours to turn. If you find one false, say at which input.
  Laid BY PROGRAM, IN A SANDBOX (cutbox-rows.mjs): the forced cells as the released guide's own fill.sh prints them over the translation d5d27520b44989d0… (all of the seat's roots in one cut). By AI agents, Wed Nov 11 2026. No macro, syntax, notation, axiom, sorry.
-/
import Derived.Test.YtnobgcnldnlbiaaChecked
import GoSem.Claim
import GoSem.ClaimJoined
import GoSem.ClaimMapViews
import Derived.JoinedTies
import Derived.KernelRfl
namespace Go.Proofs.Ytnobgcnldnlbiaa
/- THE CELL 'sum', in the pinned program and in every row, IS THE sha256 OF THE DUMP (.gsa) THAT YtnobgcnldnlbiaaProg.lean LOADS. Nothing in Lean hashes anything: it is a label: what it is worth is what the hold of that sum in a sandbox is worth. -/
noncomputable def Try.pinned : Pinned := { name := "ytnobgcnldnlbiaa", sum := "d5d27520b44989d0121181b46b1405d4373fe10f64044f762b57de0f817cc3f4", checked := Try.checked }
namespace Rows
def none {H : Type} : Left H := { results := [], args := [] }

/-- 'laws.FnExactConstants': WHATEVER THE INPUT: true; the input reads as it did. -/
def fnExactConstantsSpec : ChangeSpec := { name := "fnExactConstants", fn := fun _ => fun
  | [] => { results := [.lit (.bool true)], args := [] }
  | _ => none }
def fnExactConstantsRow : OpenClaim := { program := "ytnobgcnldnlbiaa", sum := "d5d27520b44989d0121181b46b1405d4373fe10f64044f762b57de0f817cc3f4", func := "loop.example/g00011/laws.FnExactConstants", spec := "fnExactConstants", apart := false }
def FnExactConstantsSaid : Prop := fnExactConstantsRow.holds Try.pinned (OpenSpec.ofChange fnExactConstantsSpec)

/-- ITS FALSE NEIGHBOUR: 'it returns false'. Refute it at one input. -/
def fnExactConstantsWrong : ChangeSpec := { name := "fnExactConstants", fn := fun _ => fun
  | [] => { results := [.lit (.bool false)], args := [] }
  | _ => none }
def FnExactConstantsWrongFalsely : Prop := fnExactConstantsRow.holds Try.pinned (OpenSpec.ofChange fnExactConstantsWrong)

/-- 'laws.FnExactRawKind': WHATEVER THE INPUT: true; the input reads as it did. -/
def fnExactRawKindSpec : ChangeSpec := { name := "fnExactRawKind", fn := fun _ => fun
  | [d] => { results := [.lit (.bool true)], args := [d] }
  | _ => none }
def fnExactRawKindRow : OpenClaim := { program := "ytnobgcnldnlbiaa", sum := "d5d27520b44989d0121181b46b1405d4373fe10f64044f762b57de0f817cc3f4", func := "loop.example/g00011/laws.FnExactRawKind", spec := "fnExactRawKind", apart := false }
def FnExactRawKindSaid : Prop := fnExactRawKindRow.holds Try.pinned (OpenSpec.ofChange fnExactRawKindSpec)

/-- ITS FALSE NEIGHBOUR: 'it returns false'. Refute it at one input. -/
def fnExactRawKindWrong : ChangeSpec := { name := "fnExactRawKind", fn := fun _ => fun
  | [d] => { results := [.lit (.bool false)], args := [d] }
  | _ => none }
def FnExactRawKindWrongFalsely : Prop := fnExactRawKindRow.holds Try.pinned (OpenSpec.ofChange fnExactRawKindWrong)

/-- 'laws.FnExactSizeOk': WHATEVER THE INPUT: true; the input reads as it did. -/
def fnExactSizeOkSpec : ChangeSpec := { name := "fnExactSizeOk", fn := fun _ => fun
  | [d] => { results := [.lit (.bool true)], args := [d] }
  | _ => none }
def fnExactSizeOkRow : OpenClaim := { program := "ytnobgcnldnlbiaa", sum := "d5d27520b44989d0121181b46b1405d4373fe10f64044f762b57de0f817cc3f4", func := "loop.example/g00011/laws.FnExactSizeOk", spec := "fnExactSizeOk", apart := false }
def FnExactSizeOkSaid : Prop := fnExactSizeOkRow.holds Try.pinned (OpenSpec.ofChange fnExactSizeOkSpec)

/-- ITS FALSE NEIGHBOUR: 'it returns false'. Refute it at one input. -/
def fnExactSizeOkWrong : ChangeSpec := { name := "fnExactSizeOk", fn := fun _ => fun
  | [d] => { results := [.lit (.bool false)], args := [d] }
  | _ => none }
def FnExactSizeOkWrongFalsely : Prop := fnExactSizeOkRow.holds Try.pinned (OpenSpec.ofChange fnExactSizeOkWrong)

/-- 'laws.FnExactBaseText': WHATEVER THE INPUT: true; the input reads as it did. -/
def fnExactBaseTextSpec : ChangeSpec := { name := "fnExactBaseText", fn := fun _ => fun
  | [] => { results := [.lit (.bool true)], args := [] }
  | _ => none }
def fnExactBaseTextRow : OpenClaim := { program := "ytnobgcnldnlbiaa", sum := "d5d27520b44989d0121181b46b1405d4373fe10f64044f762b57de0f817cc3f4", func := "loop.example/g00011/laws.FnExactBaseText", spec := "fnExactBaseText", apart := false }
def FnExactBaseTextSaid : Prop := fnExactBaseTextRow.holds Try.pinned (OpenSpec.ofChange fnExactBaseTextSpec)

/-- ITS FALSE NEIGHBOUR: 'it returns false'. Refute it at one input. -/
def fnExactBaseTextWrong : ChangeSpec := { name := "fnExactBaseText", fn := fun _ => fun
  | [] => { results := [.lit (.bool false)], args := [] }
  | _ => none }
def FnExactBaseTextWrongFalsely : Prop := fnExactBaseTextRow.holds Try.pinned (OpenSpec.ofChange fnExactBaseTextWrong)

/-- 'laws.FnExactNewlines': WHATEVER THE INPUT: true; the input reads as it did. -/
def fnExactNewlinesSpec : ChangeSpec := { name := "fnExactNewlines", fn := fun _ => fun
  | [d] => { results := [.lit (.bool true)], args := [d] }
  | _ => none }
def fnExactNewlinesRow : OpenClaim := { program := "ytnobgcnldnlbiaa", sum := "d5d27520b44989d0121181b46b1405d4373fe10f64044f762b57de0f817cc3f4", func := "loop.example/g00011/laws.FnExactNewlines", spec := "fnExactNewlines", apart := false }
def FnExactNewlinesSaid : Prop := fnExactNewlinesRow.holds Try.pinned (OpenSpec.ofChange fnExactNewlinesSpec)

/-- ITS FALSE NEIGHBOUR: 'it returns false'. Refute it at one input. -/
def fnExactNewlinesWrong : ChangeSpec := { name := "fnExactNewlines", fn := fun _ => fun
  | [d] => { results := [.lit (.bool false)], args := [d] }
  | _ => none }
def FnExactNewlinesWrongFalsely : Prop := fnExactNewlinesRow.holds Try.pinned (OpenSpec.ofChange fnExactNewlinesWrong)

/-- 'laws.FnExactResolve': WHATEVER THE INPUT: true; the input reads as it did. -/
def fnExactResolveSpec : ChangeSpec := { name := "fnExactResolve", fn := fun _ => fun
  | [d1, d2, d3] => { results := [.lit (.bool true)], args := [d1, d2, d3] }
  | _ => none }
def fnExactResolveRow : OpenClaim := { program := "ytnobgcnldnlbiaa", sum := "d5d27520b44989d0121181b46b1405d4373fe10f64044f762b57de0f817cc3f4", func := "loop.example/g00011/laws.FnExactResolve", spec := "fnExactResolve", apart := false }
def FnExactResolveSaid : Prop := fnExactResolveRow.holds Try.pinned (OpenSpec.ofChange fnExactResolveSpec)

/-- ITS FALSE NEIGHBOUR: 'it returns false'. Refute it at one input. -/
def fnExactResolveWrong : ChangeSpec := { name := "fnExactResolve", fn := fun _ => fun
  | [d1, d2, d3] => { results := [.lit (.bool false)], args := [d1, d2, d3] }
  | _ => none }
def FnExactResolveWrongFalsely : Prop := fnExactResolveRow.holds Try.pinned (OpenSpec.ofChange fnExactResolveWrong)

/-- 'laws.FnExactEncode': WHATEVER THE INPUT: true; the input reads as it did. -/
def fnExactEncodeSpec : ChangeSpec := { name := "fnExactEncode", fn := fun _ => fun
  | [d] => { results := [.lit (.bool true)], args := [d] }
  | _ => none }
def fnExactEncodeRow : OpenClaim := { program := "ytnobgcnldnlbiaa", sum := "d5d27520b44989d0121181b46b1405d4373fe10f64044f762b57de0f817cc3f4", func := "loop.example/g00011/laws.FnExactEncode", spec := "fnExactEncode", apart := false }
def FnExactEncodeSaid : Prop := fnExactEncodeRow.holds Try.pinned (OpenSpec.ofChange fnExactEncodeSpec)

/-- ITS FALSE NEIGHBOUR: 'it returns false'. Refute it at one input. -/
def fnExactEncodeWrong : ChangeSpec := { name := "fnExactEncode", fn := fun _ => fun
  | [d] => { results := [.lit (.bool false)], args := [d] }
  | _ => none }
def FnExactEncodeWrongFalsely : Prop := fnExactEncodeRow.holds Try.pinned (OpenSpec.ofChange fnExactEncodeWrong)

/-- 'laws.FnExactStronger': WHATEVER THE INPUT: true; the input reads as it did. -/
def fnExactStrongerSpec : ChangeSpec := { name := "fnExactStronger", fn := fun _ => fun
  | [d1, d2] => { results := [.lit (.bool true)], args := [d1, d2] }
  | _ => none }
def fnExactStrongerRow : OpenClaim := { program := "ytnobgcnldnlbiaa", sum := "d5d27520b44989d0121181b46b1405d4373fe10f64044f762b57de0f817cc3f4", func := "loop.example/g00011/laws.FnExactStronger", spec := "fnExactStronger", apart := false }
def FnExactStrongerSaid : Prop := fnExactStrongerRow.holds Try.pinned (OpenSpec.ofChange fnExactStrongerSpec)

/-- ITS FALSE NEIGHBOUR: 'it returns false'. Refute it at one input. -/
def fnExactStrongerWrong : ChangeSpec := { name := "fnExactStronger", fn := fun _ => fun
  | [d1, d2] => { results := [.lit (.bool false)], args := [d1, d2] }
  | _ => none }
def FnExactStrongerWrongFalsely : Prop := fnExactStrongerRow.holds Try.pinned (OpenSpec.ofChange fnExactStrongerWrong)

/-- 'laws.FnExactParseNumber': WHATEVER THE INPUT: true; the input reads as it did. -/
def fnExactParseNumberSpec : ChangeSpec := { name := "fnExactParseNumber", fn := fun _ => fun
  | [d] => { results := [.lit (.bool true)], args := [d] }
  | _ => none }
def fnExactParseNumberRow : OpenClaim := { program := "ytnobgcnldnlbiaa", sum := "d5d27520b44989d0121181b46b1405d4373fe10f64044f762b57de0f817cc3f4", func := "loop.example/g00011/laws.FnExactParseNumber", spec := "fnExactParseNumber", apart := false }
def FnExactParseNumberSaid : Prop := fnExactParseNumberRow.holds Try.pinned (OpenSpec.ofChange fnExactParseNumberSpec)

/-- ITS FALSE NEIGHBOUR: 'it returns false'. Refute it at one input. -/
def fnExactParseNumberWrong : ChangeSpec := { name := "fnExactParseNumber", fn := fun _ => fun
  | [d] => { results := [.lit (.bool false)], args := [d] }
  | _ => none }
def FnExactParseNumberWrongFalsely : Prop := fnExactParseNumberRow.holds Try.pinned (OpenSpec.ofChange fnExactParseNumberWrong)

/-- 'laws.FnClaims': WHATEVER THE INPUT: true; the input reads as it did. -/
def fnClaimsSpec : ChangeSpec := { name := "fnClaims", fn := fun _ => fun
  | [d1, d2] => { results := [.lit (.bool true)], args := [d1, d2] }
  | _ => none }
def fnClaimsRow : OpenClaim := { program := "ytnobgcnldnlbiaa", sum := "d5d27520b44989d0121181b46b1405d4373fe10f64044f762b57de0f817cc3f4", func := "loop.example/g00011/laws.FnClaims", spec := "fnClaims", apart := false }
def FnClaimsSaid : Prop := fnClaimsRow.holds Try.pinned (OpenSpec.ofChange fnClaimsSpec)

/-- ITS FALSE NEIGHBOUR: 'it returns false'. Refute it at one input. -/
def fnClaimsWrong : ChangeSpec := { name := "fnClaims", fn := fun _ => fun
  | [d1, d2] => { results := [.lit (.bool false)], args := [d1, d2] }
  | _ => none }
def FnClaimsWrongFalsely : Prop := fnClaimsRow.holds Try.pinned (OpenSpec.ofChange fnClaimsWrong)

/-- 'laws.FnExactWordOk': WHATEVER THE INPUT: true; the input reads as it did. -/
def fnExactWordOkSpec : ChangeSpec := { name := "fnExactWordOk", fn := fun _ => fun
  | [d] => { results := [.lit (.bool true)], args := [d] }
  | _ => none }
def fnExactWordOkRow : OpenClaim := { program := "ytnobgcnldnlbiaa", sum := "d5d27520b44989d0121181b46b1405d4373fe10f64044f762b57de0f817cc3f4", func := "loop.example/g00011/laws.FnExactWordOk", spec := "fnExactWordOk", apart := false }
def FnExactWordOkSaid : Prop := fnExactWordOkRow.holds Try.pinned (OpenSpec.ofChange fnExactWordOkSpec)

/-- ITS FALSE NEIGHBOUR: 'it returns false'. Refute it at one input. -/
def fnExactWordOkWrong : ChangeSpec := { name := "fnExactWordOk", fn := fun _ => fun
  | [d] => { results := [.lit (.bool false)], args := [d] }
  | _ => none }
def FnExactWordOkWrongFalsely : Prop := fnExactWordOkRow.holds Try.pinned (OpenSpec.ofChange fnExactWordOkWrong)

/-- 'laws.FnExactInitial': WHATEVER THE INPUT: true; the input reads as it did. -/
def fnExactInitialSpec : ChangeSpec := { name := "fnExactInitial", fn := fun _ => fun
  | [] => { results := [.lit (.bool true)], args := [] }
  | _ => none }
def fnExactInitialRow : OpenClaim := { program := "ytnobgcnldnlbiaa", sum := "d5d27520b44989d0121181b46b1405d4373fe10f64044f762b57de0f817cc3f4", func := "loop.example/g00011/laws.FnExactInitial", spec := "fnExactInitial", apart := false }
def FnExactInitialSaid : Prop := fnExactInitialRow.holds Try.pinned (OpenSpec.ofChange fnExactInitialSpec)

/-- ITS FALSE NEIGHBOUR: 'it returns false'. Refute it at one input. -/
def fnExactInitialWrong : ChangeSpec := { name := "fnExactInitial", fn := fun _ => fun
  | [] => { results := [.lit (.bool false)], args := [] }
  | _ => none }
def FnExactInitialWrongFalsely : Prop := fnExactInitialRow.holds Try.pinned (OpenSpec.ofChange fnExactInitialWrong)

/- THE SECOND FORM. 'bulk': how many values and letters a reading holds, each counted each time it is reached (what is shared counts as often as it is met; a slice's spare places count too). A statement '..UptoSaid' is the law's where the arguments, and the package variables that the reading takes, are together of bulk at most 1048576: NARROWER than '..Said'. Prove '..Said' where nothing that the law and all that it calls make is longer than what came in: it says more and counts as full. Else prove '..UptoSaid'. A law counts once. -/
mutual
def uptoBulk {H : Type} : DataW H → Nat
  | .lit (.string bytes) => bytes.length + 1
  | .lit _ => 1
  | .nil => 1
  | .ptr d => uptoBulk d + 1
  | .slice elems spare => uptoBulkAll elems + uptoBulkAll spare + 1
  | .agg parts => uptoBulkAll parts + 1
  | .iface _ d => uptoBulk d + 1
  | .map entries => uptoBulkEntries entries + 1
  | .held _ => 1
def uptoBulkAll {H : Type} : List (DataW H) → Nat
  | [] => 0
  | d :: r => uptoBulk d + uptoBulkAll r
def uptoBulkEntries {H : Type} : List (Lit × DataW H) → Nat
  | [] => 0
  | x :: r => uptoBulkEntry x + uptoBulkEntries r
def uptoBulkEntry {H : Type} : Lit × DataW H → Nat
  | (.string bytes, d) => bytes.length + uptoBulk d + 1
  | (_, d) => uptoBulk d + 1
 end
def uptoSmall : (H : Type) → List (DataW H) → Bool := fun _ ds => decide (uptoBulkAll ds ≤ 1048576)
def OpenSpec.upto (s : _root_.Go.ChangeSpec) : _root_.Go.OpenSpec := { _root_.Go.OpenSpec.ofChange s with cond := some uptoSmall }

/-- 'laws.FnExactConstants', WHERE WHAT IT READS IS OF BULK AT MOST 1048576: true; the input reads as it did. -/
def fnExactConstantsUptoRow : OpenClaim := { program := "ytnobgcnldnlbiaa", sum := "d5d27520b44989d0121181b46b1405d4373fe10f64044f762b57de0f817cc3f4", func := "loop.example/g00011/laws.FnExactConstants", spec := "fnExactConstants", apart := false, narrowed := true }
def FnExactConstantsUptoSaid : Prop := fnExactConstantsUptoRow.holds Try.pinned (OpenSpec.upto fnExactConstantsSpec)

/-- 'laws.FnExactRawKind', WHERE WHAT IT READS IS OF BULK AT MOST 1048576: true; the input reads as it did. -/
def fnExactRawKindUptoRow : OpenClaim := { program := "ytnobgcnldnlbiaa", sum := "d5d27520b44989d0121181b46b1405d4373fe10f64044f762b57de0f817cc3f4", func := "loop.example/g00011/laws.FnExactRawKind", spec := "fnExactRawKind", apart := false, narrowed := true }
def FnExactRawKindUptoSaid : Prop := fnExactRawKindUptoRow.holds Try.pinned (OpenSpec.upto fnExactRawKindSpec)

/-- 'laws.FnExactSizeOk', WHERE WHAT IT READS IS OF BULK AT MOST 1048576: true; the input reads as it did. -/
def fnExactSizeOkUptoRow : OpenClaim := { program := "ytnobgcnldnlbiaa", sum := "d5d27520b44989d0121181b46b1405d4373fe10f64044f762b57de0f817cc3f4", func := "loop.example/g00011/laws.FnExactSizeOk", spec := "fnExactSizeOk", apart := false, narrowed := true }
def FnExactSizeOkUptoSaid : Prop := fnExactSizeOkUptoRow.holds Try.pinned (OpenSpec.upto fnExactSizeOkSpec)

/-- 'laws.FnExactBaseText', WHERE WHAT IT READS IS OF BULK AT MOST 1048576: true; the input reads as it did. -/
def fnExactBaseTextUptoRow : OpenClaim := { program := "ytnobgcnldnlbiaa", sum := "d5d27520b44989d0121181b46b1405d4373fe10f64044f762b57de0f817cc3f4", func := "loop.example/g00011/laws.FnExactBaseText", spec := "fnExactBaseText", apart := false, narrowed := true }
def FnExactBaseTextUptoSaid : Prop := fnExactBaseTextUptoRow.holds Try.pinned (OpenSpec.upto fnExactBaseTextSpec)

/-- 'laws.FnExactNewlines', WHERE WHAT IT READS IS OF BULK AT MOST 1048576: true; the input reads as it did. -/
def fnExactNewlinesUptoRow : OpenClaim := { program := "ytnobgcnldnlbiaa", sum := "d5d27520b44989d0121181b46b1405d4373fe10f64044f762b57de0f817cc3f4", func := "loop.example/g00011/laws.FnExactNewlines", spec := "fnExactNewlines", apart := false, narrowed := true }
def FnExactNewlinesUptoSaid : Prop := fnExactNewlinesUptoRow.holds Try.pinned (OpenSpec.upto fnExactNewlinesSpec)

/-- 'laws.FnExactResolve', WHERE WHAT IT READS IS OF BULK AT MOST 1048576: true; the input reads as it did. -/
def fnExactResolveUptoRow : OpenClaim := { program := "ytnobgcnldnlbiaa", sum := "d5d27520b44989d0121181b46b1405d4373fe10f64044f762b57de0f817cc3f4", func := "loop.example/g00011/laws.FnExactResolve", spec := "fnExactResolve", apart := false, narrowed := true }
def FnExactResolveUptoSaid : Prop := fnExactResolveUptoRow.holds Try.pinned (OpenSpec.upto fnExactResolveSpec)

/-- 'laws.FnExactEncode', WHERE WHAT IT READS IS OF BULK AT MOST 1048576: true; the input reads as it did. -/
def fnExactEncodeUptoRow : OpenClaim := { program := "ytnobgcnldnlbiaa", sum := "d5d27520b44989d0121181b46b1405d4373fe10f64044f762b57de0f817cc3f4", func := "loop.example/g00011/laws.FnExactEncode", spec := "fnExactEncode", apart := false, narrowed := true }
def FnExactEncodeUptoSaid : Prop := fnExactEncodeUptoRow.holds Try.pinned (OpenSpec.upto fnExactEncodeSpec)

/-- 'laws.FnExactStronger', WHERE WHAT IT READS IS OF BULK AT MOST 1048576: true; the input reads as it did. -/
def fnExactStrongerUptoRow : OpenClaim := { program := "ytnobgcnldnlbiaa", sum := "d5d27520b44989d0121181b46b1405d4373fe10f64044f762b57de0f817cc3f4", func := "loop.example/g00011/laws.FnExactStronger", spec := "fnExactStronger", apart := false, narrowed := true }
def FnExactStrongerUptoSaid : Prop := fnExactStrongerUptoRow.holds Try.pinned (OpenSpec.upto fnExactStrongerSpec)

/-- 'laws.FnExactParseNumber', WHERE WHAT IT READS IS OF BULK AT MOST 1048576: true; the input reads as it did. -/
def fnExactParseNumberUptoRow : OpenClaim := { program := "ytnobgcnldnlbiaa", sum := "d5d27520b44989d0121181b46b1405d4373fe10f64044f762b57de0f817cc3f4", func := "loop.example/g00011/laws.FnExactParseNumber", spec := "fnExactParseNumber", apart := false, narrowed := true }
def FnExactParseNumberUptoSaid : Prop := fnExactParseNumberUptoRow.holds Try.pinned (OpenSpec.upto fnExactParseNumberSpec)

/-- 'laws.FnClaims', WHERE WHAT IT READS IS OF BULK AT MOST 1048576: true; the input reads as it did. -/
def fnClaimsUptoRow : OpenClaim := { program := "ytnobgcnldnlbiaa", sum := "d5d27520b44989d0121181b46b1405d4373fe10f64044f762b57de0f817cc3f4", func := "loop.example/g00011/laws.FnClaims", spec := "fnClaims", apart := false, narrowed := true }
def FnClaimsUptoSaid : Prop := fnClaimsUptoRow.holds Try.pinned (OpenSpec.upto fnClaimsSpec)

/-- 'laws.FnExactWordOk', WHERE WHAT IT READS IS OF BULK AT MOST 1048576: true; the input reads as it did. -/
def fnExactWordOkUptoRow : OpenClaim := { program := "ytnobgcnldnlbiaa", sum := "d5d27520b44989d0121181b46b1405d4373fe10f64044f762b57de0f817cc3f4", func := "loop.example/g00011/laws.FnExactWordOk", spec := "fnExactWordOk", apart := false, narrowed := true }
def FnExactWordOkUptoSaid : Prop := fnExactWordOkUptoRow.holds Try.pinned (OpenSpec.upto fnExactWordOkSpec)

/-- 'laws.FnExactInitial', WHERE WHAT IT READS IS OF BULK AT MOST 1048576: true; the input reads as it did. -/
def fnExactInitialUptoRow : OpenClaim := { program := "ytnobgcnldnlbiaa", sum := "d5d27520b44989d0121181b46b1405d4373fe10f64044f762b57de0f817cc3f4", func := "loop.example/g00011/laws.FnExactInitial", spec := "fnExactInitial", apart := false, narrowed := true }
def FnExactInitialUptoSaid : Prop := fnExactInitialUptoRow.holds Try.pinned (OpenSpec.upto fnExactInitialSpec)

end Rows
end Go.Proofs.Ytnobgcnldnlbiaa
