/-
  No cell of these rows narrows 'for every input' (looked for: loops, veiled, ifaces, maps, wideKeys, modest, calm, conditions, laid).
  DERIVED. THE GIVEN ROWS OF THIS SEAT. 11 by the template 'for every input the law returns true; each argument reads behind the call as it read before'; 0 by the template 'total and deterministic' (their statements: YtjoanlocikagaaaTotals.lean).
  GIVEN WITH THE SEED: the statements are not yours to turn. If you find one false, say at which input.
  Laid BY PROGRAM, IN A SANDBOX (cutbox-rows.mjs): the forced cells as the released guide's own fill.sh prints them over the translation d1783ab8d9fd26d6… (all of the seat's roots in one cut). By AI agents, Wed Nov 11 2026. No macro, syntax, notation, axiom, sorry.
-/
import Derived.Test.YtjoanlocikagaaaChecked
import GoSem.Claim
import GoSem.ClaimJoined
import GoSem.ClaimMapViews
import Derived.JoinedTies
import Derived.KernelRfl
namespace Go.Proofs.Ytjoanlocikagaaa
/- THE CELL 'sum', in the pinned program and in every row, IS THE sha256 OF THE DUMP (.gsa) THAT YtjoanlocikagaaaProg.lean LOADS. Nothing in Lean hashes anything: it is a label: what it is worth is what the hold of that sum in a sandbox is worth. -/
noncomputable def Try.pinned : Pinned := { name := "ytjoanlocikagaaa", sum := "d1783ab8d9fd26d6f27085ff35448ab55d48ea202c011078e5c1dc899347ade8", checked := Try.checked }
namespace Rows
def none {H : Type} : Left H := { results := [], args := [] }

/-- 'laws.FnExactCodePoints': WHATEVER THE INPUT: true; the input reads as it did. -/
def fnExactCodePointsSpec : ChangeSpec := { name := "fnExactCodePoints", fn := fun _ => fun
  | [d] => { results := [.lit (.bool true)], args := [d] }
  | _ => none }
def fnExactCodePointsRow : OpenClaim := { program := "ytjoanlocikagaaa", sum := "d1783ab8d9fd26d6f27085ff35448ab55d48ea202c011078e5c1dc899347ade8", func := "loop.example/g00011/laws.FnExactCodePoints", spec := "fnExactCodePoints", inPlace := ["internal/abi.NoEscape"], apart := false }
def FnExactCodePointsSaid : Prop := fnExactCodePointsRow.holds Try.pinned (OpenSpec.ofChange fnExactCodePointsSpec)

/-- ITS FALSE NEIGHBOUR: 'it returns false'. Refute it at one input. -/
def fnExactCodePointsWrong : ChangeSpec := { name := "fnExactCodePoints", fn := fun _ => fun
  | [d] => { results := [.lit (.bool false)], args := [d] }
  | _ => none }
def FnExactCodePointsWrongFalsely : Prop := fnExactCodePointsRow.holds Try.pinned (OpenSpec.ofChange fnExactCodePointsWrong)

/-- 'laws.FnExactParseColor': WHATEVER THE INPUT: true; the input reads as it did. -/
def fnExactParseColorSpec : ChangeSpec := { name := "fnExactParseColor", fn := fun _ => fun
  | [d] => { results := [.lit (.bool true)], args := [d] }
  | _ => none }
def fnExactParseColorRow : OpenClaim := { program := "ytjoanlocikagaaa", sum := "d1783ab8d9fd26d6f27085ff35448ab55d48ea202c011078e5c1dc899347ade8", func := "loop.example/g00011/laws.FnExactParseColor", spec := "fnExactParseColor", apart := false }
def FnExactParseColorSaid : Prop := fnExactParseColorRow.holds Try.pinned (OpenSpec.ofChange fnExactParseColorSpec)

/-- ITS FALSE NEIGHBOUR: 'it returns false'. Refute it at one input. -/
def fnExactParseColorWrong : ChangeSpec := { name := "fnExactParseColor", fn := fun _ => fun
  | [d] => { results := [.lit (.bool false)], args := [d] }
  | _ => none }
def FnExactParseColorWrongFalsely : Prop := fnExactParseColorRow.holds Try.pinned (OpenSpec.ofChange fnExactParseColorWrong)

/-- 'laws.FnExactFontOk': WHATEVER THE INPUT: true; the input reads as it did. -/
def fnExactFontOkSpec : ChangeSpec := { name := "fnExactFontOk", fn := fun _ => fun
  | [d] => { results := [.lit (.bool true)], args := [d] }
  | _ => none }
def fnExactFontOkRow : OpenClaim := { program := "ytjoanlocikagaaa", sum := "d1783ab8d9fd26d6f27085ff35448ab55d48ea202c011078e5c1dc899347ade8", func := "loop.example/g00011/laws.FnExactFontOk", spec := "fnExactFontOk", unfollowed := true, recurses := true, apart := false }
def FnExactFontOkSaid : Prop := fnExactFontOkRow.holds Try.pinned (OpenSpec.ofChange fnExactFontOkSpec)

/-- ITS FALSE NEIGHBOUR: 'it returns false'. Refute it at one input. -/
def fnExactFontOkWrong : ChangeSpec := { name := "fnExactFontOk", fn := fun _ => fun
  | [d] => { results := [.lit (.bool false)], args := [d] }
  | _ => none }
def FnExactFontOkWrongFalsely : Prop := fnExactFontOkRow.holds Try.pinned (OpenSpec.ofChange fnExactFontOkWrong)

/-- 'laws.FnExactTreeOk': WHATEVER THE INPUT: true; the input reads as it did. -/
def fnExactTreeOkSpec : ChangeSpec := { name := "fnExactTreeOk", fn := fun _ => fun
  | [d] => { results := [.lit (.bool true)], args := [d] }
  | _ => none }
def fnExactTreeOkRow : OpenClaim := { program := "ytjoanlocikagaaa", sum := "d1783ab8d9fd26d6f27085ff35448ab55d48ea202c011078e5c1dc899347ade8", func := "loop.example/g00011/laws.FnExactTreeOk", spec := "fnExactTreeOk", apart := false }
def FnExactTreeOkSaid : Prop := fnExactTreeOkRow.holds Try.pinned (OpenSpec.ofChange fnExactTreeOkSpec)

/-- ITS FALSE NEIGHBOUR: 'it returns false'. Refute it at one input. -/
def fnExactTreeOkWrong : ChangeSpec := { name := "fnExactTreeOk", fn := fun _ => fun
  | [d] => { results := [.lit (.bool false)], args := [d] }
  | _ => none }
def FnExactTreeOkWrongFalsely : Prop := fnExactTreeOkRow.holds Try.pinned (OpenSpec.ofChange fnExactTreeOkWrong)

/-- 'laws.FnExactRise': WHATEVER THE INPUT: true; the input reads as it did. -/
def fnExactRiseSpec : ChangeSpec := { name := "fnExactRise", fn := fun _ => fun
  | [d1, d2] => { results := [.lit (.bool true)], args := [d1, d2] }
  | _ => none }
def fnExactRiseRow : OpenClaim := { program := "ytjoanlocikagaaa", sum := "d1783ab8d9fd26d6f27085ff35448ab55d48ea202c011078e5c1dc899347ade8", func := "loop.example/g00011/laws.FnExactRise", spec := "fnExactRise", unfollowed := true, recurses := true, apart := false }
def FnExactRiseSaid : Prop := fnExactRiseRow.holds Try.pinned (OpenSpec.ofChange fnExactRiseSpec)

/-- ITS FALSE NEIGHBOUR: 'it returns false'. Refute it at one input. -/
def fnExactRiseWrong : ChangeSpec := { name := "fnExactRise", fn := fun _ => fun
  | [d1, d2] => { results := [.lit (.bool false)], args := [d1, d2] }
  | _ => none }
def FnExactRiseWrongFalsely : Prop := fnExactRiseRow.holds Try.pinned (OpenSpec.ofChange fnExactRiseWrong)

/-- 'laws.FnExactEscapeText': WHATEVER THE INPUT: true; the input reads as it did. -/
def fnExactEscapeTextSpec : ChangeSpec := { name := "fnExactEscapeText", fn := fun _ => fun
  | [d] => { results := [.lit (.bool true)], args := [d] }
  | _ => none }
def fnExactEscapeTextRow : OpenClaim := { program := "ytjoanlocikagaaa", sum := "d1783ab8d9fd26d6f27085ff35448ab55d48ea202c011078e5c1dc899347ade8", func := "loop.example/g00011/laws.FnExactEscapeText", spec := "fnExactEscapeText", inPlace := ["sync/atomic.LoadUint32", "(*internal/sync.Mutex).Lock", "internal/race.Disable", "sync/atomic.CompareAndSwapInt32", "internal/race.Enable", "internal/race.Acquire", "(*internal/sync.Mutex).lockSlow", "internal/sync.runtime_canSpin", "internal/sync.runtime_doSpin", "internal/sync.throw", "internal/sync.runtime_nanotime", "internal/sync.runtime_SemacquireMutex", "sync/atomic.AddInt32", "(*internal/sync.Mutex).Unlock", "internal/race.ReleaseMerge", "(*internal/sync.Mutex).unlockSlow", "internal/sync.fatal", "internal/sync.runtime_Semrelease", "sync/atomic.StoreUint32"], unfollowed := true, recurses := true, apart := false }
def FnExactEscapeTextSaid : Prop := fnExactEscapeTextRow.holds Try.pinned (OpenSpec.ofChange fnExactEscapeTextSpec)

/-- ITS FALSE NEIGHBOUR: 'it returns false'. Refute it at one input. -/
def fnExactEscapeTextWrong : ChangeSpec := { name := "fnExactEscapeText", fn := fun _ => fun
  | [d] => { results := [.lit (.bool false)], args := [d] }
  | _ => none }
def FnExactEscapeTextWrongFalsely : Prop := fnExactEscapeTextRow.holds Try.pinned (OpenSpec.ofChange fnExactEscapeTextWrong)

/-- 'laws.FnExactEscapeValue': WHATEVER THE INPUT: true; the input reads as it did. -/
def fnExactEscapeValueSpec : ChangeSpec := { name := "fnExactEscapeValue", fn := fun _ => fun
  | [d] => { results := [.lit (.bool true)], args := [d] }
  | _ => none }
def fnExactEscapeValueRow : OpenClaim := { program := "ytjoanlocikagaaa", sum := "d1783ab8d9fd26d6f27085ff35448ab55d48ea202c011078e5c1dc899347ade8", func := "loop.example/g00011/laws.FnExactEscapeValue", spec := "fnExactEscapeValue", inPlace := ["sync/atomic.LoadUint32", "(*internal/sync.Mutex).Lock", "internal/race.Disable", "sync/atomic.CompareAndSwapInt32", "internal/race.Enable", "internal/race.Acquire", "(*internal/sync.Mutex).lockSlow", "internal/sync.runtime_canSpin", "internal/sync.runtime_doSpin", "internal/sync.throw", "internal/sync.runtime_nanotime", "internal/sync.runtime_SemacquireMutex", "sync/atomic.AddInt32", "(*internal/sync.Mutex).Unlock", "internal/race.ReleaseMerge", "(*internal/sync.Mutex).unlockSlow", "internal/sync.fatal", "internal/sync.runtime_Semrelease", "sync/atomic.StoreUint32"], unfollowed := true, recurses := true, apart := false }
def FnExactEscapeValueSaid : Prop := fnExactEscapeValueRow.holds Try.pinned (OpenSpec.ofChange fnExactEscapeValueSpec)

/-- ITS FALSE NEIGHBOUR: 'it returns false'. Refute it at one input. -/
def fnExactEscapeValueWrong : ChangeSpec := { name := "fnExactEscapeValue", fn := fun _ => fun
  | [d] => { results := [.lit (.bool false)], args := [d] }
  | _ => none }
def FnExactEscapeValueWrongFalsely : Prop := fnExactEscapeValueRow.holds Try.pinned (OpenSpec.ofChange fnExactEscapeValueWrong)

/-- 'laws.FnExactFindId': WHATEVER THE INPUT: true; the input reads as it did. -/
def fnExactFindIdSpec : ChangeSpec := { name := "fnExactFindId", fn := fun _ => fun
  | [d1, d2] => { results := [.lit (.bool true)], args := [d1, d2] }
  | _ => none }
def fnExactFindIdRow : OpenClaim := { program := "ytjoanlocikagaaa", sum := "d1783ab8d9fd26d6f27085ff35448ab55d48ea202c011078e5c1dc899347ade8", func := "loop.example/g00011/laws.FnExactFindId", spec := "fnExactFindId", unfollowed := true, recurses := true, apart := false }
def FnExactFindIdSaid : Prop := fnExactFindIdRow.holds Try.pinned (OpenSpec.ofChange fnExactFindIdSpec)

/-- ITS FALSE NEIGHBOUR: 'it returns false'. Refute it at one input. -/
def fnExactFindIdWrong : ChangeSpec := { name := "fnExactFindId", fn := fun _ => fun
  | [d1, d2] => { results := [.lit (.bool false)], args := [d1, d2] }
  | _ => none }
def FnExactFindIdWrongFalsely : Prop := fnExactFindIdRow.holds Try.pinned (OpenSpec.ofChange fnExactFindIdWrong)

/-- 'laws.FnExactSpotOk': WHATEVER THE INPUT: true; the input reads as it did. -/
def fnExactSpotOkSpec : ChangeSpec := { name := "fnExactSpotOk", fn := fun _ => fun
  | [d1, d2] => { results := [.lit (.bool true)], args := [d1, d2] }
  | _ => none }
def fnExactSpotOkRow : OpenClaim := { program := "ytjoanlocikagaaa", sum := "d1783ab8d9fd26d6f27085ff35448ab55d48ea202c011078e5c1dc899347ade8", func := "loop.example/g00011/laws.FnExactSpotOk", spec := "fnExactSpotOk", recurses := true, apart := false }
def FnExactSpotOkSaid : Prop := fnExactSpotOkRow.holds Try.pinned (OpenSpec.ofChange fnExactSpotOkSpec)

/-- ITS FALSE NEIGHBOUR: 'it returns false'. Refute it at one input. -/
def fnExactSpotOkWrong : ChangeSpec := { name := "fnExactSpotOk", fn := fun _ => fun
  | [d1, d2] => { results := [.lit (.bool false)], args := [d1, d2] }
  | _ => none }
def FnExactSpotOkWrongFalsely : Prop := fnExactSpotOkRow.holds Try.pinned (OpenSpec.ofChange fnExactSpotOkWrong)

/-- 'laws.FnExactTextOf': WHATEVER THE INPUT: true; the input reads as it did. -/
def fnExactTextOfSpec : ChangeSpec := { name := "fnExactTextOf", fn := fun _ => fun
  | [d1, d2] => { results := [.lit (.bool true)], args := [d1, d2] }
  | _ => none }
def fnExactTextOfRow : OpenClaim := { program := "ytjoanlocikagaaa", sum := "d1783ab8d9fd26d6f27085ff35448ab55d48ea202c011078e5c1dc899347ade8", func := "loop.example/g00011/laws.FnExactTextOf", spec := "fnExactTextOf", recurses := true, apart := false }
def FnExactTextOfSaid : Prop := fnExactTextOfRow.holds Try.pinned (OpenSpec.ofChange fnExactTextOfSpec)

/-- ITS FALSE NEIGHBOUR: 'it returns false'. Refute it at one input. -/
def fnExactTextOfWrong : ChangeSpec := { name := "fnExactTextOf", fn := fun _ => fun
  | [d1, d2] => { results := [.lit (.bool false)], args := [d1, d2] }
  | _ => none }
def FnExactTextOfWrongFalsely : Prop := fnExactTextOfRow.holds Try.pinned (OpenSpec.ofChange fnExactTextOfWrong)

/-- 'laws.FnExactSelectorOk': WHATEVER THE INPUT: true; the input reads as it did. -/
def fnExactSelectorOkSpec : ChangeSpec := { name := "fnExactSelectorOk", fn := fun _ => fun
  | [d] => { results := [.lit (.bool true)], args := [d] }
  | _ => none }
def fnExactSelectorOkRow : OpenClaim := { program := "ytjoanlocikagaaa", sum := "d1783ab8d9fd26d6f27085ff35448ab55d48ea202c011078e5c1dc899347ade8", func := "loop.example/g00011/laws.FnExactSelectorOk", spec := "fnExactSelectorOk", apart := false }
def FnExactSelectorOkSaid : Prop := fnExactSelectorOkRow.holds Try.pinned (OpenSpec.ofChange fnExactSelectorOkSpec)

/-- ITS FALSE NEIGHBOUR: 'it returns false'. Refute it at one input. -/
def fnExactSelectorOkWrong : ChangeSpec := { name := "fnExactSelectorOk", fn := fun _ => fun
  | [d] => { results := [.lit (.bool false)], args := [d] }
  | _ => none }
def FnExactSelectorOkWrongFalsely : Prop := fnExactSelectorOkRow.holds Try.pinned (OpenSpec.ofChange fnExactSelectorOkWrong)

/- THE SECOND FORM. 'bulk': how many values and letters a reading holds, each counted each time it is reached (what is shared counts as often as it is met; a slice's spare places count too). A statement '..UptoSaid' is the law's where the arguments, and the package variables that the reading takes, are together of bulk at most 1048576: NARROWER than '..Said'. Prove '..Said' where nothing that the law and all that it calls make is longer than what came in: it says more and counts as full. Else prove '..UptoSaid'. A law counts once. -/
mutual
def uptoBulk {H : Type} : DataW H → Nat
  | .lit (.string bytes) => bytes.length + 1
  | .lit _ => 1
  | .nil => 1
  | .ptr d => uptoBulk d + 1
  | .slice elems spare => uptoBulkAll elems + uptoBulkAll spare + 1
  | .agg parts => uptoBulkAll parts + 1
  | .iface _ d => uptoBulk d + 1
  | .map entries => uptoBulkEntries entries + 1
  | .held _ => 1
def uptoBulkAll {H : Type} : List (DataW H) → Nat
  | [] => 0
  | d :: r => uptoBulk d + uptoBulkAll r
def uptoBulkEntries {H : Type} : List (Lit × DataW H) → Nat
  | [] => 0
  | x :: r => uptoBulkEntry x + uptoBulkEntries r
def uptoBulkEntry {H : Type} : Lit × DataW H → Nat
  | (.string bytes, d) => bytes.length + uptoBulk d + 1
  | (_, d) => uptoBulk d + 1
 end
def uptoSmall : (H : Type) → List (DataW H) → Bool := fun _ ds => decide (uptoBulkAll ds ≤ 1048576)
def OpenSpec.upto (s : _root_.Go.ChangeSpec) : _root_.Go.OpenSpec := { _root_.Go.OpenSpec.ofChange s with cond := some uptoSmall }

/-- 'laws.FnExactCodePoints', WHERE WHAT IT READS IS OF BULK AT MOST 1048576: true; the input reads as it did. -/
def fnExactCodePointsUptoRow : OpenClaim := { program := "ytjoanlocikagaaa", sum := "d1783ab8d9fd26d6f27085ff35448ab55d48ea202c011078e5c1dc899347ade8", func := "loop.example/g00011/laws.FnExactCodePoints", spec := "fnExactCodePoints", inPlace := ["internal/abi.NoEscape"], apart := false, narrowed := true }
def FnExactCodePointsUptoSaid : Prop := fnExactCodePointsUptoRow.holds Try.pinned (OpenSpec.upto fnExactCodePointsSpec)

/-- 'laws.FnExactParseColor', WHERE WHAT IT READS IS OF BULK AT MOST 1048576: true; the input reads as it did. -/
def fnExactParseColorUptoRow : OpenClaim := { program := "ytjoanlocikagaaa", sum := "d1783ab8d9fd26d6f27085ff35448ab55d48ea202c011078e5c1dc899347ade8", func := "loop.example/g00011/laws.FnExactParseColor", spec := "fnExactParseColor", apart := false, narrowed := true }
def FnExactParseColorUptoSaid : Prop := fnExactParseColorUptoRow.holds Try.pinned (OpenSpec.upto fnExactParseColorSpec)

/-- 'laws.FnExactFontOk', WHERE WHAT IT READS IS OF BULK AT MOST 1048576: true; the input reads as it did. -/
def fnExactFontOkUptoRow : OpenClaim := { program := "ytjoanlocikagaaa", sum := "d1783ab8d9fd26d6f27085ff35448ab55d48ea202c011078e5c1dc899347ade8", func := "loop.example/g00011/laws.FnExactFontOk", spec := "fnExactFontOk", unfollowed := true, recurses := true, apart := false, narrowed := true }
def FnExactFontOkUptoSaid : Prop := fnExactFontOkUptoRow.holds Try.pinned (OpenSpec.upto fnExactFontOkSpec)

/-- 'laws.FnExactTreeOk', WHERE WHAT IT READS IS OF BULK AT MOST 1048576: true; the input reads as it did. -/
def fnExactTreeOkUptoRow : OpenClaim := { program := "ytjoanlocikagaaa", sum := "d1783ab8d9fd26d6f27085ff35448ab55d48ea202c011078e5c1dc899347ade8", func := "loop.example/g00011/laws.FnExactTreeOk", spec := "fnExactTreeOk", apart := false, narrowed := true }
def FnExactTreeOkUptoSaid : Prop := fnExactTreeOkUptoRow.holds Try.pinned (OpenSpec.upto fnExactTreeOkSpec)

/-- 'laws.FnExactRise', WHERE WHAT IT READS IS OF BULK AT MOST 1048576: true; the input reads as it did. -/
def fnExactRiseUptoRow : OpenClaim := { program := "ytjoanlocikagaaa", sum := "d1783ab8d9fd26d6f27085ff35448ab55d48ea202c011078e5c1dc899347ade8", func := "loop.example/g00011/laws.FnExactRise", spec := "fnExactRise", unfollowed := true, recurses := true, apart := false, narrowed := true }
def FnExactRiseUptoSaid : Prop := fnExactRiseUptoRow.holds Try.pinned (OpenSpec.upto fnExactRiseSpec)

/-- 'laws.FnExactEscapeText', WHERE WHAT IT READS IS OF BULK AT MOST 1048576: true; the input reads as it did. -/
def fnExactEscapeTextUptoRow : OpenClaim := { program := "ytjoanlocikagaaa", sum := "d1783ab8d9fd26d6f27085ff35448ab55d48ea202c011078e5c1dc899347ade8", func := "loop.example/g00011/laws.FnExactEscapeText", spec := "fnExactEscapeText", inPlace := ["sync/atomic.LoadUint32", "(*internal/sync.Mutex).Lock", "internal/race.Disable", "sync/atomic.CompareAndSwapInt32", "internal/race.Enable", "internal/race.Acquire", "(*internal/sync.Mutex).lockSlow", "internal/sync.runtime_canSpin", "internal/sync.runtime_doSpin", "internal/sync.throw", "internal/sync.runtime_nanotime", "internal/sync.runtime_SemacquireMutex", "sync/atomic.AddInt32", "(*internal/sync.Mutex).Unlock", "internal/race.ReleaseMerge", "(*internal/sync.Mutex).unlockSlow", "internal/sync.fatal", "internal/sync.runtime_Semrelease", "sync/atomic.StoreUint32"], unfollowed := true, recurses := true, apart := false, narrowed := true }
def FnExactEscapeTextUptoSaid : Prop := fnExactEscapeTextUptoRow.holds Try.pinned (OpenSpec.upto fnExactEscapeTextSpec)

/-- 'laws.FnExactEscapeValue', WHERE WHAT IT READS IS OF BULK AT MOST 1048576: true; the input reads as it did. -/
def fnExactEscapeValueUptoRow : OpenClaim := { program := "ytjoanlocikagaaa", sum := "d1783ab8d9fd26d6f27085ff35448ab55d48ea202c011078e5c1dc899347ade8", func := "loop.example/g00011/laws.FnExactEscapeValue", spec := "fnExactEscapeValue", inPlace := ["sync/atomic.LoadUint32", "(*internal/sync.Mutex).Lock", "internal/race.Disable", "sync/atomic.CompareAndSwapInt32", "internal/race.Enable", "internal/race.Acquire", "(*internal/sync.Mutex).lockSlow", "internal/sync.runtime_canSpin", "internal/sync.runtime_doSpin", "internal/sync.throw", "internal/sync.runtime_nanotime", "internal/sync.runtime_SemacquireMutex", "sync/atomic.AddInt32", "(*internal/sync.Mutex).Unlock", "internal/race.ReleaseMerge", "(*internal/sync.Mutex).unlockSlow", "internal/sync.fatal", "internal/sync.runtime_Semrelease", "sync/atomic.StoreUint32"], unfollowed := true, recurses := true, apart := false, narrowed := true }
def FnExactEscapeValueUptoSaid : Prop := fnExactEscapeValueUptoRow.holds Try.pinned (OpenSpec.upto fnExactEscapeValueSpec)

/-- 'laws.FnExactFindId', WHERE WHAT IT READS IS OF BULK AT MOST 1048576: true; the input reads as it did. -/
def fnExactFindIdUptoRow : OpenClaim := { program := "ytjoanlocikagaaa", sum := "d1783ab8d9fd26d6f27085ff35448ab55d48ea202c011078e5c1dc899347ade8", func := "loop.example/g00011/laws.FnExactFindId", spec := "fnExactFindId", unfollowed := true, recurses := true, apart := false, narrowed := true }
def FnExactFindIdUptoSaid : Prop := fnExactFindIdUptoRow.holds Try.pinned (OpenSpec.upto fnExactFindIdSpec)

/-- 'laws.FnExactSpotOk', WHERE WHAT IT READS IS OF BULK AT MOST 1048576: true; the input reads as it did. -/
def fnExactSpotOkUptoRow : OpenClaim := { program := "ytjoanlocikagaaa", sum := "d1783ab8d9fd26d6f27085ff35448ab55d48ea202c011078e5c1dc899347ade8", func := "loop.example/g00011/laws.FnExactSpotOk", spec := "fnExactSpotOk", recurses := true, apart := false, narrowed := true }
def FnExactSpotOkUptoSaid : Prop := fnExactSpotOkUptoRow.holds Try.pinned (OpenSpec.upto fnExactSpotOkSpec)

/-- 'laws.FnExactTextOf', WHERE WHAT IT READS IS OF BULK AT MOST 1048576: true; the input reads as it did. -/
def fnExactTextOfUptoRow : OpenClaim := { program := "ytjoanlocikagaaa", sum := "d1783ab8d9fd26d6f27085ff35448ab55d48ea202c011078e5c1dc899347ade8", func := "loop.example/g00011/laws.FnExactTextOf", spec := "fnExactTextOf", recurses := true, apart := false, narrowed := true }
def FnExactTextOfUptoSaid : Prop := fnExactTextOfUptoRow.holds Try.pinned (OpenSpec.upto fnExactTextOfSpec)

/-- 'laws.FnExactSelectorOk', WHERE WHAT IT READS IS OF BULK AT MOST 1048576: true; the input reads as it did. -/
def fnExactSelectorOkUptoRow : OpenClaim := { program := "ytjoanlocikagaaa", sum := "d1783ab8d9fd26d6f27085ff35448ab55d48ea202c011078e5c1dc899347ade8", func := "loop.example/g00011/laws.FnExactSelectorOk", spec := "fnExactSelectorOk", apart := false, narrowed := true }
def FnExactSelectorOkUptoSaid : Prop := fnExactSelectorOkUptoRow.holds Try.pinned (OpenSpec.upto fnExactSelectorOkSpec)

end Rows
end Go.Proofs.Ytjoanlocikagaaa
