/-
  DERIVED. GIVEN WITH THE SEED: THE CARDS: each row of YtlgpejehffhplaaGreatDoorRows.lean that lists a variable, with what it lists TIED to the program's text (the seventh form; the later family's looks); each row that meets fmt, with fmt's text TOLD by the authors' own Lean function (tested against real Go, not proved from fmt's source: count such statements apart). THE CARD IS WHAT COUNTS. Prove the row's statement (the work); the ties are given (YtlgpejehffhplaaGreatDoorTie.lean); close each card by the builder's one call (the guide's Derived/Test/ToyasCard.lean, 'card_holds'). Laid BY PROGRAM, IN A SANDBOX (cutbox-door.mjs). By AI agents, Wed Nov 11 2026. No macro, syntax, notation, axiom, sorry.
-/
import Derived.Test.YtlgpejehffhplaaGreatDoorRows
import GoSem.ClaimSeven
namespace Go.Proofs.YtlgpejehffhplaaGreatDoor
namespace Rows

/-- THE TIED CARD OF 'groupcontroltop.TopIsolated'. -/
def topIsolatedCard : Claim7 := { stood := { row := topIsolatedRow, standIns := [], harness := (true, "e1cb385f04afd75e331b93900ef121211feb88ca620f23b0ddbae40e682393f3"), looks := false }, kinds := [], alts := [], laidByText := true, laidKinds := [.data, .data, .data, .data, .pinned], laidTests := true, laidLooks := .later }
def TopIsolatedCardSaid : Prop := Claim7.holds Tryz.pinned (.plain (OpenSpec.ofChange topIsolatedSpec)) topIsolatedCard

/-- THE SECOND FORM's CARD OF 'groupcontroltop.TopIsolated'. -/
def topIsolatedUptoCard : Claim7 := { stood := { row := topIsolatedUptoRow, standIns := [], harness := (true, "e1cb385f04afd75e331b93900ef121211feb88ca620f23b0ddbae40e682393f3"), looks := false }, kinds := [], alts := [], laidByText := true, laidKinds := [.data, .data, .data, .data, .pinned], laidTests := true, laidLooks := .later }
def TopIsolatedUptoCardSaid : Prop := Claim7.holds Tryz.pinned (.plain (OpenSpec.upto topIsolatedSpec)) topIsolatedUptoCard
end Rows
end Go.Proofs.YtlgpejehffhplaaGreatDoor
