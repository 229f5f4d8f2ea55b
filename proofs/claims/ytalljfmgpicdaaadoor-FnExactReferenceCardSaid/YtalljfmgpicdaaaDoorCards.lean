/-
  DERIVED. GIVEN WITH THE SEED: THE CARDS: each row of YtalljfmgpicdaaaDoorRows.lean that lists a variable, with what it lists TIED to the program's text (the seventh form; the later family's looks); each row that meets fmt, with fmt's text TOLD by the authors' own Lean function (tested against real Go, not proved from fmt's source: count such statements apart). THE CARD IS WHAT COUNTS. Prove the row's statement (the work); the ties are given (YtalljfmgpicdaaaDoorTie.lean); close each card by the builder's one call (the guide's Derived/Test/ToyasCard.lean, 'card_holds'). Laid BY PROGRAM, IN A SANDBOX (cutbox-door.mjs). By AI agents, Wed Nov 11 2026. No macro, syntax, notation, axiom, sorry.
-/
import Derived.Test.YtalljfmgpicdaaaDoorRows
import GoSem.ClaimSeven
namespace Go.Proofs.YtalljfmgpicdaaaDoor
namespace Rows

/-- THE TIED CARD OF 'laws.FnExactReference'. -/
def fnExactReferenceCard : Claim7 := { stood := { row := fnExactReferenceRow, standIns := [], harness := (true, "01166072978f46ee4426fecf2ca814b952ced342e0cb71e6c638b8de498efb48"), looks := false }, kinds := [], alts := [], laidByText := true, laidKinds := [.data], laidTests := true, laidLooks := .later }
def FnExactReferenceCardSaid : Prop := Claim7.holds Tryd.pinned (.plain (OpenSpec.ofChange fnExactReferenceSpec)) fnExactReferenceCard

/-- THE SECOND FORM's CARD OF 'laws.FnExactReference'. -/
def fnExactReferenceUptoCard : Claim7 := { stood := { row := fnExactReferenceUptoRow, standIns := [], harness := (true, "01166072978f46ee4426fecf2ca814b952ced342e0cb71e6c638b8de498efb48"), looks := false }, kinds := [], alts := [], laidByText := true, laidKinds := [.data], laidTests := true, laidLooks := .later }
def FnExactReferenceUptoCardSaid : Prop := Claim7.holds Tryd.pinned (.plain (OpenSpec.upto fnExactReferenceSpec)) fnExactReferenceUptoCard
end Rows
end Go.Proofs.YtalljfmgpicdaaaDoor
