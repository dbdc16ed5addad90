/-
  DERIVED. GIVEN WITH THE SEED: THE CARDS: each row of YtbaehbbonkljpaaGreatDoorRows.lean that lists a variable, with what it lists TIED to the program's text (the seventh form; the later family's looks); each row that meets fmt, with fmt's text TOLD by the authors' own Lean function (tested against real Go, not proved from fmt's source: count such statements apart). THE CARD IS WHAT COUNTS. Prove the row's statement (the work); the ties are given (YtbaehbbonkljpaaGreatDoorTie.lean); close each card by the builder's one call (the guide's Derived/Test/ToyasCard.lean, 'card_holds'). Laid BY PROGRAM, IN A SANDBOX (cutbox-door.mjs). By AI agents, Wed Nov 11 2026. No macro, syntax, notation, axiom, sorry.
-/
import Derived.Test.YtbaehbbonkljpaaGreatDoorRows
import GoSem.ClaimSeven
namespace Go.Proofs.YtbaehbbonkljpaaGreatDoor
namespace Rows

/-- THE TIED CARD OF 'kalendslaw14.TableMatchesReference'. -/
def tableMatchesReferenceCard : Claim7 := { stood := { row := tableMatchesReferenceRow, standIns := [], harness := (true, "e6cfca2683f67f06cff3b4f41bae5bf8d1350251d5194efb071822e4fbf89bf1"), looks := true }, kinds := [], alts := [], laidByText := true, laidKinds := [.data], laidTests := true, laidLooks := .later }
def TableMatchesReferenceCardSaid : Prop := Claim7.holds Tryz.pinned (.plain (OpenSpec.ofChange tableMatchesReferenceSpec)) tableMatchesReferenceCard

/-- THE TIED CARD OF 'kalendslaw14.TableChainsMatchReference'. -/
def tableChainsMatchReferenceCard : Claim7 := { stood := { row := tableChainsMatchReferenceRow, standIns := [], harness := (true, "e6cfca2683f67f06cff3b4f41bae5bf8d1350251d5194efb071822e4fbf89bf1"), looks := true }, kinds := [], alts := [], laidByText := true, laidKinds := [.data], laidTests := true, laidLooks := .later }
def TableChainsMatchReferenceCardSaid : Prop := Claim7.holds Tryz.pinned (.plain (OpenSpec.ofChange tableChainsMatchReferenceSpec)) tableChainsMatchReferenceCard

/-- THE SECOND FORM's CARD OF 'kalendslaw14.TableMatchesReference'. -/
def tableMatchesReferenceUptoCard : Claim7 := { stood := { row := tableMatchesReferenceUptoRow, standIns := [], harness := (true, "e6cfca2683f67f06cff3b4f41bae5bf8d1350251d5194efb071822e4fbf89bf1"), looks := true }, kinds := [], alts := [], laidByText := true, laidKinds := [.data], laidTests := true, laidLooks := .later }
def TableMatchesReferenceUptoCardSaid : Prop := Claim7.holds Tryz.pinned (.plain (OpenSpec.upto tableMatchesReferenceSpec)) tableMatchesReferenceUptoCard

/-- THE SECOND FORM's CARD OF 'kalendslaw14.TableChainsMatchReference'. -/
def tableChainsMatchReferenceUptoCard : Claim7 := { stood := { row := tableChainsMatchReferenceUptoRow, standIns := [], harness := (true, "e6cfca2683f67f06cff3b4f41bae5bf8d1350251d5194efb071822e4fbf89bf1"), looks := true }, kinds := [], alts := [], laidByText := true, laidKinds := [.data], laidTests := true, laidLooks := .later }
def TableChainsMatchReferenceUptoCardSaid : Prop := Claim7.holds Tryz.pinned (.plain (OpenSpec.upto tableChainsMatchReferenceSpec)) tableChainsMatchReferenceUptoCard
end Rows
end Go.Proofs.YtbaehbbonkljpaaGreatDoor
