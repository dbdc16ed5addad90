/-
  DERIVED. GIVEN WITH THE SEED: THE CARDS: each row of YtdibbemgpikgjaaGreatDoorRows.lean that lists a variable, with what it lists TIED to the program's text (the seventh form; the later family's looks); each row that meets fmt, with fmt's text TOLD by the authors' own Lean function (tested against real Go, not proved from fmt's source: count such statements apart). THE CARD IS WHAT COUNTS. Prove the row's statement (the work); the ties are given (YtdibbemgpikgjaaGreatDoorTie.lean); close each card by the builder's one call (the guide's Derived/Test/ToyasCard.lean, 'card_holds'). Laid BY PROGRAM, IN A SANDBOX (cutbox-door.mjs). By AI agents, Wed Nov 11 2026. No macro, syntax, notation, axiom, sorry.
-/
import Derived.Test.YtdibbemgpikgjaaGreatDoorRows
import GoSem.ClaimSeven
namespace Go.Proofs.YtdibbemgpikgjaaGreatDoor
namespace Rows

/-- THE TIED CARD OF 'kalendslaw14.TableKeys'. -/
def tableKeysCard : Claim7 := { stood := { row := tableKeysRow, standIns := [], harness := (true, "d7e91c623c8a83625351f50cdcf75ad842432c7f2a46732c414df31a58ee4876"), looks := true }, kinds := [], alts := [], laidByText := true, laidKinds := [.data], laidTests := true, laidLooks := .later }
def TableKeysCardSaid : Prop := Claim7.holds Tryz.pinned (.plain (OpenSpec.ofChange tableKeysSpec)) tableKeysCard

/-- THE TIED CARD OF 'kalendslaw14.TableTampering'. -/
def tableTamperingCard : Claim7 := { stood := { row := tableTamperingRow, standIns := [], harness := (true, "d7e91c623c8a83625351f50cdcf75ad842432c7f2a46732c414df31a58ee4876"), looks := true }, kinds := [], alts := [], laidByText := true, laidKinds := [.data], laidTests := true, laidLooks := .later }
def TableTamperingCardSaid : Prop := Claim7.holds Tryz.pinned (.plain (OpenSpec.ofChange tableTamperingSpec)) tableTamperingCard

/-- THE TIED CARD OF 'kalendslaw14.TableChains'. -/
def tableChainsCard : Claim7 := { stood := { row := tableChainsRow, standIns := [], harness := (true, "d7e91c623c8a83625351f50cdcf75ad842432c7f2a46732c414df31a58ee4876"), looks := true }, kinds := [], alts := [], laidByText := true, laidKinds := [.data], laidTests := true, laidLooks := .later }
def TableChainsCardSaid : Prop := Claim7.holds Tryz.pinned (.plain (OpenSpec.ofChange tableChainsSpec)) tableChainsCard

/-- THE SECOND FORM's CARD OF 'kalendslaw14.TableKeys'. -/
def tableKeysUptoCard : Claim7 := { stood := { row := tableKeysUptoRow, standIns := [], harness := (true, "d7e91c623c8a83625351f50cdcf75ad842432c7f2a46732c414df31a58ee4876"), looks := true }, kinds := [], alts := [], laidByText := true, laidKinds := [.data], laidTests := true, laidLooks := .later }
def TableKeysUptoCardSaid : Prop := Claim7.holds Tryz.pinned (.plain (OpenSpec.upto tableKeysSpec)) tableKeysUptoCard

/-- THE SECOND FORM's CARD OF 'kalendslaw14.TableTampering'. -/
def tableTamperingUptoCard : Claim7 := { stood := { row := tableTamperingUptoRow, standIns := [], harness := (true, "d7e91c623c8a83625351f50cdcf75ad842432c7f2a46732c414df31a58ee4876"), looks := true }, kinds := [], alts := [], laidByText := true, laidKinds := [.data], laidTests := true, laidLooks := .later }
def TableTamperingUptoCardSaid : Prop := Claim7.holds Tryz.pinned (.plain (OpenSpec.upto tableTamperingSpec)) tableTamperingUptoCard

/-- THE SECOND FORM's CARD OF 'kalendslaw14.TableChains'. -/
def tableChainsUptoCard : Claim7 := { stood := { row := tableChainsUptoRow, standIns := [], harness := (true, "d7e91c623c8a83625351f50cdcf75ad842432c7f2a46732c414df31a58ee4876"), looks := true }, kinds := [], alts := [], laidByText := true, laidKinds := [.data], laidTests := true, laidLooks := .later }
def TableChainsUptoCardSaid : Prop := Claim7.holds Tryz.pinned (.plain (OpenSpec.upto tableChainsSpec)) tableChainsUptoCard
end Rows
end Go.Proofs.YtdibbemgpikgjaaGreatDoor
