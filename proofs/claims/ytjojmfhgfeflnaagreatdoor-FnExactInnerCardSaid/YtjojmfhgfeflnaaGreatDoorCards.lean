/-
  DERIVED. GIVEN WITH THE SEED: THE CARDS: each row of YtjojmfhgfeflnaaGreatDoorRows.lean that lists a variable, with what it lists TIED to the program's text (the seventh form; the later family's looks); each row that meets fmt, with fmt's text TOLD by the authors' own Lean function (tested against real Go, not proved from fmt's source: count such statements apart). THE CARD IS WHAT COUNTS. Prove the row's statement (the work); the ties are given (YtjojmfhgfeflnaaGreatDoorTie.lean); close each card by the builder's one call (the guide's Derived/Test/ToyasCard.lean, 'card_holds'). Laid BY PROGRAM, IN A SANDBOX (cutbox-door.mjs). By AI agents, Wed Nov 11 2026. No macro, syntax, notation, axiom, sorry.
-/
import Derived.Test.YtjojmfhgfeflnaaGreatDoorRows
import GoSem.ClaimSeven
namespace Go.Proofs.YtjojmfhgfeflnaaGreatDoor
namespace Rows

/-- THE TIED CARD OF 'laws.FnExactWrite'. -/
def fnExactWriteCard : Claim7 := { stood := { row := fnExactWriteRow, standIns := [], harness := (true, "e8071e3cf01f2bcc015e55d0df5b5196426d8c3a23822c76338358525723b576"), looks := true }, kinds := [], alts := [], laidByText := true, laidKinds := [.listed, .data], laidTests := true, laidLooks := .later }
def FnExactWriteCardSaid : Prop := Claim7.holds Tryz.pinned (.plain (OpenSpec.ofChange fnExactWriteSpec)) fnExactWriteCard

/-- THE TIED CARD OF 'laws.FnExactInner'. -/
def fnExactInnerCard : Claim7 := { stood := { row := fnExactInnerRow, standIns := [], harness := (true, "e8071e3cf01f2bcc015e55d0df5b5196426d8c3a23822c76338358525723b576"), looks := true }, kinds := [], alts := [], laidByText := true, laidKinds := [.listed, .data], laidTests := true, laidLooks := .later }
def FnExactInnerCardSaid : Prop := Claim7.holds Tryz.pinned (.plain (OpenSpec.ofChange fnExactInnerSpec)) fnExactInnerCard

/-- THE SECOND FORM's CARD OF 'laws.FnExactWrite'. -/
def fnExactWriteUptoCard : Claim7 := { stood := { row := fnExactWriteUptoRow, standIns := [], harness := (true, "e8071e3cf01f2bcc015e55d0df5b5196426d8c3a23822c76338358525723b576"), looks := true }, kinds := [], alts := [], laidByText := true, laidKinds := [.listed, .data], laidTests := true, laidLooks := .later }
def FnExactWriteUptoCardSaid : Prop := Claim7.holds Tryz.pinned (.plain (OpenSpec.upto fnExactWriteSpec)) fnExactWriteUptoCard

/-- THE SECOND FORM's CARD OF 'laws.FnExactInner'. -/
def fnExactInnerUptoCard : Claim7 := { stood := { row := fnExactInnerUptoRow, standIns := [], harness := (true, "e8071e3cf01f2bcc015e55d0df5b5196426d8c3a23822c76338358525723b576"), looks := true }, kinds := [], alts := [], laidByText := true, laidKinds := [.listed, .data], laidTests := true, laidLooks := .later }
def FnExactInnerUptoCardSaid : Prop := Claim7.holds Tryz.pinned (.plain (OpenSpec.upto fnExactInnerSpec)) fnExactInnerUptoCard
end Rows
end Go.Proofs.YtjojmfhgfeflnaaGreatDoor
