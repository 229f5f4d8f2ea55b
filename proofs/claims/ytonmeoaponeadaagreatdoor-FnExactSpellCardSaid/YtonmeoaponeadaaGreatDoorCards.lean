/-
  DERIVED. GIVEN WITH THE SEED: THE CARDS: each row of YtonmeoaponeadaaGreatDoorRows.lean that lists a variable, with what it lists TIED to the program's text (the seventh form; the later family's looks); each row that meets fmt, with fmt's text TOLD by the authors' own Lean function (tested against real Go, not proved from fmt's source: count such statements apart). THE CARD IS WHAT COUNTS. Prove the row's statement (the work); the ties are given (YtonmeoaponeadaaGreatDoorTie.lean); close each card by the builder's one call (the guide's Derived/Test/ToyasCard.lean, 'card_holds'). Laid BY PROGRAM, IN A SANDBOX (cutbox-door.mjs). By AI agents, Wed Nov 11 2026. No macro, syntax, notation, axiom, sorry.
-/
import Derived.Test.YtonmeoaponeadaaGreatDoorRows
import GoSem.ClaimSeven
namespace Go.Proofs.YtonmeoaponeadaaGreatDoor
namespace Rows

/-- THE TIED CARD OF 'laws.FnExactSpell'. -/
def fnExactSpellCard : Claim7 := { stood := { row := fnExactSpellRow, standIns := [], harness := (true, "758df0020ee7c74c556704fd2a1ceacb8bb3c1de7c45ecb7a631d9c18cfd9ef6"), looks := true }, kinds := [], alts := [], laidByText := true, laidKinds := [.data, .data, .data], laidTests := true, laidLooks := .later }
def FnExactSpellCardSaid : Prop := Claim7.holds Tryz.pinned (.plain (OpenSpec.ofChange fnExactSpellSpec)) fnExactSpellCard

/-- THE SECOND FORM's CARD OF 'laws.FnExactSpell'. -/
def fnExactSpellUptoCard : Claim7 := { stood := { row := fnExactSpellUptoRow, standIns := [], harness := (true, "758df0020ee7c74c556704fd2a1ceacb8bb3c1de7c45ecb7a631d9c18cfd9ef6"), looks := true }, kinds := [], alts := [], laidByText := true, laidKinds := [.data, .data, .data], laidTests := true, laidLooks := .later }
def FnExactSpellUptoCardSaid : Prop := Claim7.holds Tryz.pinned (.plain (OpenSpec.upto fnExactSpellSpec)) fnExactSpellUptoCard
end Rows
end Go.Proofs.YtonmeoaponeadaaGreatDoor
