/-
  No cell of these rows narrows 'for every input' (looked for: loops, veiled, ifaces, maps, wideKeys, modest, calm, conditions, laid).
  DERIVED. THE GIVEN ROWS OF THIS SEAT. 3 by the template 'for every input the law returns true; each argument reads behind the call as it read before'; 0 by the template 'total and deterministic' (their statements: YtdakcbddlempfaaGreatTotals.lean).
  GIVEN WITH THE SEED: the statements are not yours to turn. If you find one false, say at which input.
  Laid BY PROGRAM, IN A SANDBOX (cutbox-rows.mjs): the forced cells as the released guide's own fill.sh prints them over the translation 62f6f2680be8cef2… (all of the seat's roots in one cut). By AI agents, Wed Nov 11 2026. No macro, syntax, notation, axiom, sorry.
-/
import Derived.Test.YtdakcbddlempfaaGreatChecked
import GoSem.Claim
import GoSem.ClaimJoined
import GoSem.ClaimMapViews
import Derived.JoinedTies
import Derived.KernelRfl
namespace Go.Proofs.YtdakcbddlempfaaGreat
/- THE CELL 'sum', in the pinned program and in every row, IS THE sha256 OF THE DUMP (.gsa) THAT YtdakcbddlempfaaGreatProg.lean LOADS. Nothing in Lean hashes anything: it is a label: what it is worth is what the hold of that sum in a sandbox is worth. -/
noncomputable def Tryz.pinned : Pinned := { name := "ytdakcbddlempfaagreat", sum := "62f6f2680be8cef264d16408edc14ee2a24abc298b00e24d84224e54d1e525b8", checked := Tryz.checked }
namespace Rows
def none {H : Type} : Left H := { results := [], args := [] }

/-- 'kalendslaw20.LetterRoundTrip': WHATEVER THE INPUT: true; the input reads as it did. -/
def letterRoundTripSpec : ChangeSpec := { name := "letterRoundTrip", fn := fun _ => fun
  | [d1, d2] => { results := [.lit (.bool true)], args := [d1, d2] }
  | _ => none }
def letterRoundTripRow : OpenClaim := { program := "ytdakcbddlempfaagreat", sum := "62f6f2680be8cef264d16408edc14ee2a24abc298b00e24d84224e54d1e525b8", func := "kalends/kalendslaw20.LetterRoundTrip", spec := "letterRoundTrip", unfollowed := true, recurses := true, apart := false }
def LetterRoundTripSaid : Prop := letterRoundTripRow.holds Tryz.pinned (OpenSpec.ofChange letterRoundTripSpec)

/-- ITS FALSE NEIGHBOUR: 'it returns false'. Refute it at one input. -/
def letterRoundTripWrong : ChangeSpec := { name := "letterRoundTrip", fn := fun _ => fun
  | [d1, d2] => { results := [.lit (.bool false)], args := [d1, d2] }
  | _ => none }
def LetterRoundTripWrongFalsely : Prop := letterRoundTripRow.holds Tryz.pinned (OpenSpec.ofChange letterRoundTripWrong)

/-- 'kalendslaw20.LetterParts': WHATEVER THE INPUT: true; the input reads as it did. -/
def letterPartsSpec : ChangeSpec := { name := "letterParts", fn := fun _ => fun
  | [d1, d2, d3] => { results := [.lit (.bool true)], args := [d1, d2, d3] }
  | _ => none }
def letterPartsRow : OpenClaim := { program := "ytdakcbddlempfaagreat", sum := "62f6f2680be8cef264d16408edc14ee2a24abc298b00e24d84224e54d1e525b8", func := "kalends/kalendslaw20.LetterParts", spec := "letterParts", unfollowed := true, recurses := true, apart := false }
def LetterPartsSaid : Prop := letterPartsRow.holds Tryz.pinned (OpenSpec.ofChange letterPartsSpec)

/-- ITS FALSE NEIGHBOUR: 'it returns false'. Refute it at one input. -/
def letterPartsWrong : ChangeSpec := { name := "letterParts", fn := fun _ => fun
  | [d1, d2, d3] => { results := [.lit (.bool false)], args := [d1, d2, d3] }
  | _ => none }
def LetterPartsWrongFalsely : Prop := letterPartsRow.holds Tryz.pinned (OpenSpec.ofChange letterPartsWrong)

/-- 'kalendslaw20.LetterDirection': WHATEVER THE INPUT: true; the input reads as it did. -/
def letterDirectionSpec : ChangeSpec := { name := "letterDirection", fn := fun _ => fun
  | [d1, d2] => { results := [.lit (.bool true)], args := [d1, d2] }
  | _ => none }
def letterDirectionRow : OpenClaim := { program := "ytdakcbddlempfaagreat", sum := "62f6f2680be8cef264d16408edc14ee2a24abc298b00e24d84224e54d1e525b8", func := "kalends/kalendslaw20.LetterDirection", spec := "letterDirection", unfollowed := true, recurses := true, apart := false }
def LetterDirectionSaid : Prop := letterDirectionRow.holds Tryz.pinned (OpenSpec.ofChange letterDirectionSpec)

/-- ITS FALSE NEIGHBOUR: 'it returns false'. Refute it at one input. -/
def letterDirectionWrong : ChangeSpec := { name := "letterDirection", fn := fun _ => fun
  | [d1, d2] => { results := [.lit (.bool false)], args := [d1, d2] }
  | _ => none }
def LetterDirectionWrongFalsely : Prop := letterDirectionRow.holds Tryz.pinned (OpenSpec.ofChange letterDirectionWrong)

/- THE SECOND FORM. 'bulk': how many values and letters a reading holds, each counted each time it is reached (what is shared counts as often as it is met; a slice's spare places count too). A statement '..UptoSaid' is the law's where the arguments, and the package variables that the reading takes, are together of bulk at most 1048576: NARROWER than '..Said'. Prove '..Said' where nothing that the law and all that it calls make is longer than what came in: it says more and counts as full. Else prove '..UptoSaid'. A law counts once. -/
mutual
def uptoBulk {H : Type} : DataW H → Nat
  | .lit (.string bytes) => bytes.length + 1
  | .lit _ => 1
  | .nil => 1
  | .ptr d => uptoBulk d + 1
  | .slice elems spare => uptoBulkAll elems + uptoBulkAll spare + 1
  | .agg parts => uptoBulkAll parts + 1
  | .iface _ d => uptoBulk d + 1
  | .map entries => uptoBulkEntries entries + 1
  | .held _ => 1
def uptoBulkAll {H : Type} : List (DataW H) → Nat
  | [] => 0
  | d :: r => uptoBulk d + uptoBulkAll r
def uptoBulkEntries {H : Type} : List (Lit × DataW H) → Nat
  | [] => 0
  | x :: r => uptoBulkEntry x + uptoBulkEntries r
def uptoBulkEntry {H : Type} : Lit × DataW H → Nat
  | (.string bytes, d) => bytes.length + uptoBulk d + 1
  | (_, d) => uptoBulk d + 1
 end
def uptoSmall : (H : Type) → List (DataW H) → Bool := fun _ ds => decide (uptoBulkAll ds ≤ 1048576)
def OpenSpec.upto (s : _root_.Go.ChangeSpec) : _root_.Go.OpenSpec := { _root_.Go.OpenSpec.ofChange s with cond := some uptoSmall }

/-- 'kalendslaw20.LetterRoundTrip', WHERE WHAT IT READS IS OF BULK AT MOST 1048576: true; the input reads as it did. -/
def letterRoundTripUptoRow : OpenClaim := { program := "ytdakcbddlempfaagreat", sum := "62f6f2680be8cef264d16408edc14ee2a24abc298b00e24d84224e54d1e525b8", func := "kalends/kalendslaw20.LetterRoundTrip", spec := "letterRoundTrip", unfollowed := true, recurses := true, apart := false, narrowed := true }
def LetterRoundTripUptoSaid : Prop := letterRoundTripUptoRow.holds Tryz.pinned (OpenSpec.upto letterRoundTripSpec)

/-- 'kalendslaw20.LetterParts', WHERE WHAT IT READS IS OF BULK AT MOST 1048576: true; the input reads as it did. -/
def letterPartsUptoRow : OpenClaim := { program := "ytdakcbddlempfaagreat", sum := "62f6f2680be8cef264d16408edc14ee2a24abc298b00e24d84224e54d1e525b8", func := "kalends/kalendslaw20.LetterParts", spec := "letterParts", unfollowed := true, recurses := true, apart := false, narrowed := true }
def LetterPartsUptoSaid : Prop := letterPartsUptoRow.holds Tryz.pinned (OpenSpec.upto letterPartsSpec)

/-- 'kalendslaw20.LetterDirection', WHERE WHAT IT READS IS OF BULK AT MOST 1048576: true; the input reads as it did. -/
def letterDirectionUptoRow : OpenClaim := { program := "ytdakcbddlempfaagreat", sum := "62f6f2680be8cef264d16408edc14ee2a24abc298b00e24d84224e54d1e525b8", func := "kalends/kalendslaw20.LetterDirection", spec := "letterDirection", unfollowed := true, recurses := true, apart := false, narrowed := true }
def LetterDirectionUptoSaid : Prop := letterDirectionUptoRow.holds Tryz.pinned (OpenSpec.upto letterDirectionSpec)

end Rows
end Go.Proofs.YtdakcbddlempfaaGreat
