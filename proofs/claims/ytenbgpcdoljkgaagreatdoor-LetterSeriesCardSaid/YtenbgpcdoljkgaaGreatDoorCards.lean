/-
  DERIVED. GIVEN WITH THE SEED: THE CARDS: each row of YtenbgpcdoljkgaaGreatDoorRows.lean that lists a variable, with what it lists TIED to the program's text (the seventh form; the later family's looks); each row that meets fmt, with fmt's text TOLD by the authors' own Lean function (tested against real Go, not proved from fmt's source: count such statements apart). THE CARD IS WHAT COUNTS. Prove the row's statement (the work); the ties are given (YtenbgpcdoljkgaaGreatDoorTie.lean); close each card by the builder's one call (the guide's Derived/Test/ToyasCard.lean, 'card_holds'). Laid BY PROGRAM, IN A SANDBOX (cutbox-door.mjs). By AI agents, Wed Nov 11 2026. No macro, syntax, notation, axiom, sorry.
-/
import Derived.Test.YtenbgpcdoljkgaaGreatDoorRows
import GoSem.ClaimSeven
namespace Go.Proofs.YtenbgpcdoljkgaaGreatDoor
namespace Rows

/-- THE TIED CARD OF 'kalendslaw20.LetterRefs'. -/
def letterRefsCard : Claim7 := { stood := { row := letterRefsRow, standIns := [], harness := (true, "3211b0a087322cd8f2f0150f90e7c2be06408239345183bf9c7b197cbaecfe10"), looks := true }, kinds := [], alts := [], laidByText := true, laidKinds := [.data], laidTests := true, laidLooks := .later }
def LetterRefsCardSaid : Prop := Claim7.holds Tryz.pinned (.plain (OpenSpec.ofChange letterRefsSpec)) letterRefsCard

/-- THE TIED CARD OF 'kalendslaw20.LetterUnused'. -/
def letterUnusedCard : Claim7 := { stood := { row := letterUnusedRow, standIns := [], harness := (true, "3211b0a087322cd8f2f0150f90e7c2be06408239345183bf9c7b197cbaecfe10"), looks := true }, kinds := [], alts := [], laidByText := true, laidKinds := [.data], laidTests := true, laidLooks := .later }
def LetterUnusedCardSaid : Prop := Claim7.holds Tryz.pinned (.plain (OpenSpec.ofChange letterUnusedSpec)) letterUnusedCard

/-- THE TIED CARD OF 'kalendslaw20.LetterSeries'. -/
def letterSeriesCard : Claim7 := { stood := { row := letterSeriesRow, standIns := [], harness := (true, "3211b0a087322cd8f2f0150f90e7c2be06408239345183bf9c7b197cbaecfe10"), looks := true }, kinds := [], alts := [], laidByText := true, laidKinds := [.data, .data, .data], laidTests := true, laidLooks := .later }
def LetterSeriesCardSaid : Prop := Claim7.holds Tryz.pinned (.plain (OpenSpec.ofChange letterSeriesSpec)) letterSeriesCard

/-- THE SECOND FORM's CARD OF 'kalendslaw20.LetterRefs'. -/
def letterRefsUptoCard : Claim7 := { stood := { row := letterRefsUptoRow, standIns := [], harness := (true, "3211b0a087322cd8f2f0150f90e7c2be06408239345183bf9c7b197cbaecfe10"), looks := true }, kinds := [], alts := [], laidByText := true, laidKinds := [.data], laidTests := true, laidLooks := .later }
def LetterRefsUptoCardSaid : Prop := Claim7.holds Tryz.pinned (.plain (OpenSpec.upto letterRefsSpec)) letterRefsUptoCard

/-- THE SECOND FORM's CARD OF 'kalendslaw20.LetterUnused'. -/
def letterUnusedUptoCard : Claim7 := { stood := { row := letterUnusedUptoRow, standIns := [], harness := (true, "3211b0a087322cd8f2f0150f90e7c2be06408239345183bf9c7b197cbaecfe10"), looks := true }, kinds := [], alts := [], laidByText := true, laidKinds := [.data], laidTests := true, laidLooks := .later }
def LetterUnusedUptoCardSaid : Prop := Claim7.holds Tryz.pinned (.plain (OpenSpec.upto letterUnusedSpec)) letterUnusedUptoCard

/-- THE SECOND FORM's CARD OF 'kalendslaw20.LetterSeries'. -/
def letterSeriesUptoCard : Claim7 := { stood := { row := letterSeriesUptoRow, standIns := [], harness := (true, "3211b0a087322cd8f2f0150f90e7c2be06408239345183bf9c7b197cbaecfe10"), looks := true }, kinds := [], alts := [], laidByText := true, laidKinds := [.data, .data, .data], laidTests := true, laidLooks := .later }
def LetterSeriesUptoCardSaid : Prop := Claim7.holds Tryz.pinned (.plain (OpenSpec.upto letterSeriesSpec)) letterSeriesUptoCard
end Rows
end Go.Proofs.YtenbgpcdoljkgaaGreatDoor
