/-
  DERIVED. GIVEN WITH THE SEED: THE CARDS: each row of YtoljoigbepdeiaaGreatDoorRows.lean that lists a variable, with what it lists TIED to the program's text (the seventh form; the later family's looks); each row that meets fmt, with fmt's text TOLD by the authors' own Lean function (tested against real Go, not proved from fmt's source: count such statements apart). THE CARD IS WHAT COUNTS. Prove the row's statement (the work); the ties are given (YtoljoigbepdeiaaGreatDoorTie.lean); close each card by the builder's one call (the guide's Derived/Test/ToyasCard.lean, 'card_holds'). Laid BY PROGRAM, IN A SANDBOX (cutbox-door.mjs). By AI agents, Wed Nov 11 2026. No macro, syntax, notation, axiom, sorry.
-/
import Derived.Test.YtoljoigbepdeiaaGreatDoorRows
import GoSem.ClaimSeven
namespace Go.Proofs.YtoljoigbepdeiaaGreatDoor
namespace Rows

/-- THE TIED CARD OF 'kalendslaw20.LetterTables'. -/
def letterTablesCard : Claim7 := { stood := { row := letterTablesRow, standIns := [], harness := (true, "f7eb29d0f25a4bf6060d0d75b9c2445fbd6ef9031f88e0946518ab3656ed8967"), looks := true }, kinds := [], alts := [], laidByText := true, laidKinds := [.data], laidTests := true, laidLooks := .later }
def LetterTablesCardSaid : Prop := Claim7.holds Tryz.pinned (.plain (OpenSpec.ofChange letterTablesSpec)) letterTablesCard

/-- THE SECOND FORM's CARD OF 'kalendslaw20.LetterTables'. -/
def letterTablesUptoCard : Claim7 := { stood := { row := letterTablesUptoRow, standIns := [], harness := (true, "f7eb29d0f25a4bf6060d0d75b9c2445fbd6ef9031f88e0946518ab3656ed8967"), looks := true }, kinds := [], alts := [], laidByText := true, laidKinds := [.data], laidTests := true, laidLooks := .later }
def LetterTablesUptoCardSaid : Prop := Claim7.holds Tryz.pinned (.plain (OpenSpec.upto letterTablesSpec)) letterTablesUptoCard
end Rows
end Go.Proofs.YtoljoigbepdeiaaGreatDoor
