/-
  DERIVED. GIVEN WITH THE SEED: THE CARDS: each row of YtddpkhjinlbaoaaGreatDoorRows.lean that lists a variable, with what it lists TIED to the program's text (the seventh form; the later family's looks); each row that meets fmt, with fmt's text TOLD by the authors' own Lean function (tested against real Go, not proved from fmt's source: count such statements apart). THE CARD IS WHAT COUNTS. Prove the row's statement (the work); the ties are given (YtddpkhjinlbaoaaGreatDoorTie.lean); close each card by the builder's one call (the guide's Derived/Test/ToyasCard.lean, 'card_holds'). Laid BY PROGRAM, IN A SANDBOX (cutbox-door.mjs). By AI agents, Wed Nov 11 2026. No macro, syntax, notation, axiom, sorry.
-/
import Derived.Test.YtddpkhjinlbaoaaGreatDoorRows
import GoSem.ClaimSeven
namespace Go.Proofs.YtddpkhjinlbaoaaGreatDoor
namespace Rows

/-- THE TIED CARD OF 'groupcontroltop.TopConfigured'. -/
def topConfiguredCard : Claim7 := { stood := { row := topConfiguredRow, standIns := [], harness := (true, "2211e70c79e80630fd69f878a3ab92b3d348fc89c0068a8eefbde42bd4b7d3c9"), looks := false }, kinds := [], alts := [], laidByText := true, laidKinds := [.data, .data, .data, .data, .pinned], laidTests := true, laidLooks := .later }
def TopConfiguredCardSaid : Prop := Claim7.holds Tryz.pinned (.plain (OpenSpec.ofChange topConfiguredSpec)) topConfiguredCard

/-- THE SECOND FORM's CARD OF 'groupcontroltop.TopConfigured'. -/
def topConfiguredUptoCard : Claim7 := { stood := { row := topConfiguredUptoRow, standIns := [], harness := (true, "2211e70c79e80630fd69f878a3ab92b3d348fc89c0068a8eefbde42bd4b7d3c9"), looks := false }, kinds := [], alts := [], laidByText := true, laidKinds := [.data, .data, .data, .data, .pinned], laidTests := true, laidLooks := .later }
def TopConfiguredUptoCardSaid : Prop := Claim7.holds Tryz.pinned (.plain (OpenSpec.upto topConfiguredSpec)) topConfiguredUptoCard
end Rows
end Go.Proofs.YtddpkhjinlbaoaaGreatDoor
