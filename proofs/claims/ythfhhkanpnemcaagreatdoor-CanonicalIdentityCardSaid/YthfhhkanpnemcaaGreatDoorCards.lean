/-
  DERIVED. GIVEN WITH THE SEED: THE CARDS: each row of YthfhhkanpnemcaaGreatDoorRows.lean that lists a variable, with what it lists TIED to the program's text (the seventh form; the later family's looks); each row that meets fmt, with fmt's text TOLD by the authors' own Lean function (tested against real Go, not proved from fmt's source: count such statements apart). THE CARD IS WHAT COUNTS. Prove the row's statement (the work); the ties are given (YthfhhkanpnemcaaGreatDoorTie.lean); close each card by the builder's one call (the guide's Derived/Test/ToyasCard.lean, 'card_holds'). Laid BY PROGRAM, IN A SANDBOX (cutbox-door.mjs). By AI agents, Wed Nov 11 2026. No macro, syntax, notation, axiom, sorry.
-/
import Derived.Test.YthfhhkanpnemcaaGreatDoorRows
import GoSem.ClaimSeven
namespace Go.Proofs.YthfhhkanpnemcaaGreatDoor
namespace Rows

/-- THE TIED CARD OF 'bulletinlaw18.CanonicalIdentity'. -/
def canonicalIdentityCard : Claim7 := { stood := { row := canonicalIdentityRow, standIns := [], harness := (true, "f1143ee6c93250823ffc2d7c96979871d0a35fd379d76a05d4adef1ad60bab03"), looks := false }, kinds := [], alts := [], laidByText := true, laidKinds := [.data, .data, .data, .data, .pinned], laidTests := true, laidLooks := .later }
def CanonicalIdentityCardSaid : Prop := Claim7.holds Tryz.pinned (.plain (OpenSpec.ofChange canonicalIdentitySpec)) canonicalIdentityCard

/-- THE SECOND FORM's CARD OF 'bulletinlaw18.CanonicalIdentity'. -/
def canonicalIdentityUptoCard : Claim7 := { stood := { row := canonicalIdentityUptoRow, standIns := [], harness := (true, "f1143ee6c93250823ffc2d7c96979871d0a35fd379d76a05d4adef1ad60bab03"), looks := false }, kinds := [], alts := [], laidByText := true, laidKinds := [.data, .data, .data, .data, .pinned], laidTests := true, laidLooks := .later }
def CanonicalIdentityUptoCardSaid : Prop := Claim7.holds Tryz.pinned (.plain (OpenSpec.upto canonicalIdentitySpec)) canonicalIdentityUptoCard
end Rows
end Go.Proofs.YthfhhkanpnemcaaGreatDoor
