/-
  DERIVED. GIVEN WITH THE SEED: THE CARDS: each row of YtfejddjefapciaaGreatDoorRows.lean that lists a variable, with what it lists TIED to the program's text (the seventh form; the later family's looks); each row that meets fmt, with fmt's text TOLD by the authors' own Lean function (tested against real Go, not proved from fmt's source: count such statements apart). THE CARD IS WHAT COUNTS. Prove the row's statement (the work); the ties are given (YtfejddjefapciaaGreatDoorTie.lean); close each card by the builder's one call (the guide's Derived/Test/ToyasCard.lean, 'card_holds'). Laid BY PROGRAM, IN A SANDBOX (cutbox-door.mjs). By AI agents, Wed Nov 11 2026. No macro, syntax, notation, axiom, sorry.
-/
import Derived.Test.YtfejddjefapciaaGreatDoorRows
import GoSem.ClaimSeven
namespace Go.Proofs.YtfejddjefapciaaGreatDoor
namespace Rows

/-- THE TIED CARD OF 'trystlaw23.OrganiserNil'. -/
def organiserNilCard : Claim7 := { stood := { row := organiserNilRow, standIns := [], harness := (true, "e76881553d490f37e563a63456ab4c59c9ecea1c11e521be847c26dfc86f2c31"), looks := true }, kinds := [], alts := [], laidByText := true, laidKinds := [.data, .data, .data, .data, .widerDeep, .widerDeep, .widerDeep, .widerDeep, .widerDeep, .pinned], laidTests := true, laidLooks := .later }
def OrganiserNilCardSaid : Prop := Claim7.holds Tryz.pinned (.plain (OpenSpec.ofChange organiserNilSpec)) organiserNilCard

/-- THE SECOND FORM's CARD OF 'trystlaw23.OrganiserNil'. -/
def organiserNilUptoCard : Claim7 := { stood := { row := organiserNilUptoRow, standIns := [], harness := (true, "e76881553d490f37e563a63456ab4c59c9ecea1c11e521be847c26dfc86f2c31"), looks := true }, kinds := [], alts := [], laidByText := true, laidKinds := [.data, .data, .data, .data, .widerDeep, .widerDeep, .widerDeep, .widerDeep, .widerDeep, .pinned], laidTests := true, laidLooks := .later }
def OrganiserNilUptoCardSaid : Prop := Claim7.holds Tryz.pinned (.plain (OpenSpec.upto organiserNilSpec)) organiserNilUptoCard
end Rows
end Go.Proofs.YtfejddjefapciaaGreatDoor
