/-
  DERIVED. GIVEN WITH THE SEED: THE CARDS: each row of YtpgagfmpikhpkaaGreatDoorRows.lean that lists a variable, with what it lists TIED to the program's text (the seventh form; the later family's looks); each row that meets fmt, with fmt's text TOLD by the authors' own Lean function (tested against real Go, not proved from fmt's source: count such statements apart). THE CARD IS WHAT COUNTS. Prove the row's statement (the work); the ties are given (YtpgagfmpikhpkaaGreatDoorTie.lean); close each card by the builder's one call (the guide's Derived/Test/ToyasCard.lean, 'card_holds'). Laid BY PROGRAM, IN A SANDBOX (cutbox-door.mjs). By AI agents, Wed Nov 11 2026. No macro, syntax, notation, axiom, sorry.
-/
import Derived.Test.YtpgagfmpikhpkaaGreatDoorRows
import GoSem.ClaimSeven
namespace Go.Proofs.YtpgagfmpikhpkaaGreatDoor
namespace Rows

/-- THE TIED CARD OF 'kalendslaw20.LetterUnused'. -/
def letterUnusedCard : Claim7 := { stood := { row := letterUnusedRow, standIns := [], harness := (true, "6dae544ea99c62695f02064fdf070e00255c938efe9bc8bad391b6c8431b3b2b"), looks := true }, kinds := [], alts := [], laidByText := true, laidKinds := [.data], laidTests := true, laidLooks := .later }
def LetterUnusedCardSaid : Prop := Claim7.holds Tryz.pinned (.plain (OpenSpec.ofChange letterUnusedSpec)) letterUnusedCard

/-- THE SECOND FORM's CARD OF 'kalendslaw20.LetterUnused'. -/
def letterUnusedUptoCard : Claim7 := { stood := { row := letterUnusedUptoRow, standIns := [], harness := (true, "6dae544ea99c62695f02064fdf070e00255c938efe9bc8bad391b6c8431b3b2b"), looks := true }, kinds := [], alts := [], laidByText := true, laidKinds := [.data], laidTests := true, laidLooks := .later }
def LetterUnusedUptoCardSaid : Prop := Claim7.holds Tryz.pinned (.plain (OpenSpec.upto letterUnusedSpec)) letterUnusedUptoCard
end Rows
end Go.Proofs.YtpgagfmpikhpkaaGreatDoor
