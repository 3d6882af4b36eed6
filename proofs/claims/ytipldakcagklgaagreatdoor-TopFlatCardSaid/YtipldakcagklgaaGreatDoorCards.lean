/-
  DERIVED. GIVEN WITH THE SEED: THE CARDS: each row of YtipldakcagklgaaGreatDoorRows.lean that lists a variable, with what it lists TIED to the program's text (the seventh form; the later family's looks); each row that meets fmt, with fmt's text TOLD by the authors' own Lean function (tested against real Go, not proved from fmt's source: count such statements apart). THE CARD IS WHAT COUNTS. Prove the row's statement (the work); the ties are given (YtipldakcagklgaaGreatDoorTie.lean); close each card by the builder's one call (the guide's Derived/Test/ToyasCard.lean, 'card_holds'). Laid BY PROGRAM, IN A SANDBOX (cutbox-door.mjs). By AI agents, Wed Nov 11 2026. No macro, syntax, notation, axiom, sorry.
-/
import Derived.Test.YtipldakcagklgaaGreatDoorRows
import GoSem.ClaimSeven
namespace Go.Proofs.YtipldakcagklgaaGreatDoor
namespace Rows

/-- THE TIED CARD OF 'groupcontroltop.TopFlat'. -/
def topFlatCard : Claim7 := { stood := { row := topFlatRow, standIns := [], harness := (true, "a59cef7b37ac29931079deaeed5f970133a732304a957145c8aa32c437c2e5d2"), looks := false }, kinds := [], alts := [], laidByText := true, laidKinds := [.data, .data, .data, .data, .pinned], laidTests := true, laidLooks := .later }
def TopFlatCardSaid : Prop := Claim7.holds Tryz.pinned (.plain (OpenSpec.ofChange topFlatSpec)) topFlatCard

/-- THE SECOND FORM's CARD OF 'groupcontroltop.TopFlat'. -/
def topFlatUptoCard : Claim7 := { stood := { row := topFlatUptoRow, standIns := [], harness := (true, "a59cef7b37ac29931079deaeed5f970133a732304a957145c8aa32c437c2e5d2"), looks := false }, kinds := [], alts := [], laidByText := true, laidKinds := [.data, .data, .data, .data, .pinned], laidTests := true, laidLooks := .later }
def TopFlatUptoCardSaid : Prop := Claim7.holds Tryz.pinned (.plain (OpenSpec.upto topFlatSpec)) topFlatUptoCard
end Rows
end Go.Proofs.YtipldakcagklgaaGreatDoor
