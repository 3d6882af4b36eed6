/-
  No cell of these rows narrows 'for every input' (looked for: loops, veiled, ifaces, maps, wideKeys, modest, calm, conditions, laid).
  DERIVED. THE GIVEN ROWS OF THIS SEAT. 6 by the template 'for every input the law returns true; each argument reads behind the call as it read before'; 0 by the template 'total and deterministic' (their statements: YtlfiegjpiiihfaaTotals.lean).
  GIVEN WITH THE SEED: the statements are not yours to turn. If you find one false, say at which input.
  Laid BY PROGRAM, IN A SANDBOX (cutbox-rows.mjs): the forced cells as the released guide's own fill.sh prints them over the translation ec492279b8146623… (all of the seat's roots in one cut). By AI agents, Wed Nov 11 2026. No macro, syntax, notation, axiom, sorry.
-/
import Derived.Test.YtlfiegjpiiihfaaChecked
import GoSem.Claim
import GoSem.ClaimJoined
import GoSem.ClaimMapViews
import Derived.JoinedTies
import Derived.KernelRfl
namespace Go.Proofs.Ytlfiegjpiiihfaa
/- THE CELL 'sum', in the pinned program and in every row, IS THE sha256 OF THE DUMP (.gsa) THAT YtlfiegjpiiihfaaProg.lean LOADS. Nothing in Lean hashes anything: it is a label: what it is worth is what the hold of that sum in a sandbox is worth. -/
noncomputable def Try.pinned : Pinned := { name := "ytlfiegjpiiihfaa", sum := "ec492279b8146623b4b10b17ee8d84ea93fd04823f60f3172bba8f2963f06c0d", checked := Try.checked }
namespace Rows
def none {H : Type} : Left H := { results := [], args := [] }

/-- 'groupcontrollaw23.ProtectWhole': WHATEVER THE INPUT: true; the input reads as it did. -/
def protectWholeSpec : ChangeSpec := { name := "protectWhole", fn := fun _ => fun
  | [d] => { results := [.lit (.bool true)], args := [d] }
  | _ => none }
def protectWholeRow : OpenClaim := { program := "ytlfiegjpiiihfaa", sum := "ec492279b8146623b4b10b17ee8d84ea93fd04823f60f3172bba8f2963f06c0d", func := "groupcontrol/groupcontrollaw23.ProtectWhole", spec := "protectWhole", unfollowed := true, recurses := true, apart := false }
def ProtectWholeSaid : Prop := protectWholeRow.holds Try.pinned (OpenSpec.ofChange protectWholeSpec)

/-- ITS FALSE NEIGHBOUR: 'it returns false'. Refute it at one input. -/
def protectWholeWrong : ChangeSpec := { name := "protectWhole", fn := fun _ => fun
  | [d] => { results := [.lit (.bool false)], args := [d] }
  | _ => none }
def ProtectWholeWrongFalsely : Prop := protectWholeRow.holds Try.pinned (OpenSpec.ofChange protectWholeWrong)

/-- 'groupcontrollaw23.ProtectExact': WHATEVER THE INPUT: true; the input reads as it did. -/
def protectExactSpec : ChangeSpec := { name := "protectExact", fn := fun _ => fun
  | [d1, d2, d3, d4, d5, d6] => { results := [.lit (.bool true)], args := [d1, d2, d3, d4, d5, d6] }
  | _ => none }
def protectExactRow : OpenClaim := { program := "ytlfiegjpiiihfaa", sum := "ec492279b8146623b4b10b17ee8d84ea93fd04823f60f3172bba8f2963f06c0d", func := "groupcontrol/groupcontrollaw23.ProtectExact", spec := "protectExact", unfollowed := true, recurses := true, apart := false }
def ProtectExactSaid : Prop := protectExactRow.holds Try.pinned (OpenSpec.ofChange protectExactSpec)

/-- ITS FALSE NEIGHBOUR: 'it returns false'. Refute it at one input. -/
def protectExactWrong : ChangeSpec := { name := "protectExact", fn := fun _ => fun
  | [d1, d2, d3, d4, d5, d6] => { results := [.lit (.bool false)], args := [d1, d2, d3, d4, d5, d6] }
  | _ => none }
def ProtectExactWrongFalsely : Prop := protectExactRow.holds Try.pinned (OpenSpec.ofChange protectExactWrong)

/-- 'groupcontrollaw23.ProtectBounds': WHATEVER THE INPUT: true; the input reads as it did. -/
def protectBoundsSpec : ChangeSpec := { name := "protectBounds", fn := fun _ => fun
  | [d] => { results := [.lit (.bool true)], args := [d] }
  | _ => none }
def protectBoundsRow : OpenClaim := { program := "ytlfiegjpiiihfaa", sum := "ec492279b8146623b4b10b17ee8d84ea93fd04823f60f3172bba8f2963f06c0d", func := "groupcontrol/groupcontrollaw23.ProtectBounds", spec := "protectBounds", unfollowed := true, recurses := true, apart := false }
def ProtectBoundsSaid : Prop := protectBoundsRow.holds Try.pinned (OpenSpec.ofChange protectBoundsSpec)

/-- ITS FALSE NEIGHBOUR: 'it returns false'. Refute it at one input. -/
def protectBoundsWrong : ChangeSpec := { name := "protectBounds", fn := fun _ => fun
  | [d] => { results := [.lit (.bool false)], args := [d] }
  | _ => none }
def ProtectBoundsWrongFalsely : Prop := protectBoundsRow.holds Try.pinned (OpenSpec.ofChange protectBoundsWrong)

/-- 'groupcontrollaw23.ProtectFloor': WHATEVER THE INPUT: true; the input reads as it did. -/
def protectFloorSpec : ChangeSpec := { name := "protectFloor", fn := fun _ => fun
  | [d] => { results := [.lit (.bool true)], args := [d] }
  | _ => none }
def protectFloorRow : OpenClaim := { program := "ytlfiegjpiiihfaa", sum := "ec492279b8146623b4b10b17ee8d84ea93fd04823f60f3172bba8f2963f06c0d", func := "groupcontrol/groupcontrollaw23.ProtectFloor", spec := "protectFloor", unfollowed := true, recurses := true, apart := false }
def ProtectFloorSaid : Prop := protectFloorRow.holds Try.pinned (OpenSpec.ofChange protectFloorSpec)

/-- ITS FALSE NEIGHBOUR: 'it returns false'. Refute it at one input. -/
def protectFloorWrong : ChangeSpec := { name := "protectFloor", fn := fun _ => fun
  | [d] => { results := [.lit (.bool false)], args := [d] }
  | _ => none }
def ProtectFloorWrongFalsely : Prop := protectFloorRow.holds Try.pinned (OpenSpec.ofChange protectFloorWrong)

/-- 'groupcontrollaw23.ProtectRaises': WHATEVER THE INPUT: true; the input reads as it did. -/
def protectRaisesSpec : ChangeSpec := { name := "protectRaises", fn := fun _ => fun
  | [d1, d2] => { results := [.lit (.bool true)], args := [d1, d2] }
  | _ => none }
def protectRaisesRow : OpenClaim := { program := "ytlfiegjpiiihfaa", sum := "ec492279b8146623b4b10b17ee8d84ea93fd04823f60f3172bba8f2963f06c0d", func := "groupcontrol/groupcontrollaw23.ProtectRaises", spec := "protectRaises", unfollowed := true, recurses := true, apart := false }
def ProtectRaisesSaid : Prop := protectRaisesRow.holds Try.pinned (OpenSpec.ofChange protectRaisesSpec)

/-- ITS FALSE NEIGHBOUR: 'it returns false'. Refute it at one input. -/
def protectRaisesWrong : ChangeSpec := { name := "protectRaises", fn := fun _ => fun
  | [d1, d2] => { results := [.lit (.bool false)], args := [d1, d2] }
  | _ => none }
def ProtectRaisesWrongFalsely : Prop := protectRaisesRow.holds Try.pinned (OpenSpec.ofChange protectRaisesWrong)

/-- 'groupcontrollaw23.ProtectAlone': WHATEVER THE INPUT: true; the input reads as it did. -/
def protectAloneSpec : ChangeSpec := { name := "protectAlone", fn := fun _ => fun
  | [d] => { results := [.lit (.bool true)], args := [d] }
  | _ => none }
def protectAloneRow : OpenClaim := { program := "ytlfiegjpiiihfaa", sum := "ec492279b8146623b4b10b17ee8d84ea93fd04823f60f3172bba8f2963f06c0d", func := "groupcontrol/groupcontrollaw23.ProtectAlone", spec := "protectAlone", unfollowed := true, recurses := true, apart := false }
def ProtectAloneSaid : Prop := protectAloneRow.holds Try.pinned (OpenSpec.ofChange protectAloneSpec)

/-- ITS FALSE NEIGHBOUR: 'it returns false'. Refute it at one input. -/
def protectAloneWrong : ChangeSpec := { name := "protectAlone", fn := fun _ => fun
  | [d] => { results := [.lit (.bool false)], args := [d] }
  | _ => none }
def ProtectAloneWrongFalsely : Prop := protectAloneRow.holds Try.pinned (OpenSpec.ofChange protectAloneWrong)

/- THE SECOND FORM. 'bulk': how many values and letters a reading holds, each counted each time it is reached (what is shared counts as often as it is met; a slice's spare places count too). A statement '..UptoSaid' is the law's where the arguments, and the package variables that the reading takes, are together of bulk at most 1048576: NARROWER than '..Said'. Prove '..Said' where nothing that the law and all that it calls make is longer than what came in: it says more and counts as full. Else prove '..UptoSaid'. A law counts once. -/
mutual
def uptoBulk {H : Type} : DataW H → Nat
  | .lit (.string bytes) => bytes.length + 1
  | .lit _ => 1
  | .nil => 1
  | .ptr d => uptoBulk d + 1
  | .slice elems spare => uptoBulkAll elems + uptoBulkAll spare + 1
  | .agg parts => uptoBulkAll parts + 1
  | .iface _ d => uptoBulk d + 1
  | .map entries => uptoBulkEntries entries + 1
  | .held _ => 1
def uptoBulkAll {H : Type} : List (DataW H) → Nat
  | [] => 0
  | d :: r => uptoBulk d + uptoBulkAll r
def uptoBulkEntries {H : Type} : List (Lit × DataW H) → Nat
  | [] => 0
  | x :: r => uptoBulkEntry x + uptoBulkEntries r
def uptoBulkEntry {H : Type} : Lit × DataW H → Nat
  | (.string bytes, d) => bytes.length + uptoBulk d + 1
  | (_, d) => uptoBulk d + 1
 end
def uptoSmall : (H : Type) → List (DataW H) → Bool := fun _ ds => decide (uptoBulkAll ds ≤ 1048576)
def OpenSpec.upto (s : _root_.Go.ChangeSpec) : _root_.Go.OpenSpec := { _root_.Go.OpenSpec.ofChange s with cond := some uptoSmall }

/-- 'groupcontrollaw23.ProtectWhole', WHERE WHAT IT READS IS OF BULK AT MOST 1048576: true; the input reads as it did. -/
def protectWholeUptoRow : OpenClaim := { program := "ytlfiegjpiiihfaa", sum := "ec492279b8146623b4b10b17ee8d84ea93fd04823f60f3172bba8f2963f06c0d", func := "groupcontrol/groupcontrollaw23.ProtectWhole", spec := "protectWhole", unfollowed := true, recurses := true, apart := false, narrowed := true }
def ProtectWholeUptoSaid : Prop := protectWholeUptoRow.holds Try.pinned (OpenSpec.upto protectWholeSpec)

/-- 'groupcontrollaw23.ProtectExact', WHERE WHAT IT READS IS OF BULK AT MOST 1048576: true; the input reads as it did. -/
def protectExactUptoRow : OpenClaim := { program := "ytlfiegjpiiihfaa", sum := "ec492279b8146623b4b10b17ee8d84ea93fd04823f60f3172bba8f2963f06c0d", func := "groupcontrol/groupcontrollaw23.ProtectExact", spec := "protectExact", unfollowed := true, recurses := true, apart := false, narrowed := true }
def ProtectExactUptoSaid : Prop := protectExactUptoRow.holds Try.pinned (OpenSpec.upto protectExactSpec)

/-- 'groupcontrollaw23.ProtectBounds', WHERE WHAT IT READS IS OF BULK AT MOST 1048576: true; the input reads as it did. -/
def protectBoundsUptoRow : OpenClaim := { program := "ytlfiegjpiiihfaa", sum := "ec492279b8146623b4b10b17ee8d84ea93fd04823f60f3172bba8f2963f06c0d", func := "groupcontrol/groupcontrollaw23.ProtectBounds", spec := "protectBounds", unfollowed := true, recurses := true, apart := false, narrowed := true }
def ProtectBoundsUptoSaid : Prop := protectBoundsUptoRow.holds Try.pinned (OpenSpec.upto protectBoundsSpec)

/-- 'groupcontrollaw23.ProtectFloor', WHERE WHAT IT READS IS OF BULK AT MOST 1048576: true; the input reads as it did. -/
def protectFloorUptoRow : OpenClaim := { program := "ytlfiegjpiiihfaa", sum := "ec492279b8146623b4b10b17ee8d84ea93fd04823f60f3172bba8f2963f06c0d", func := "groupcontrol/groupcontrollaw23.ProtectFloor", spec := "protectFloor", unfollowed := true, recurses := true, apart := false, narrowed := true }
def ProtectFloorUptoSaid : Prop := protectFloorUptoRow.holds Try.pinned (OpenSpec.upto protectFloorSpec)

/-- 'groupcontrollaw23.ProtectRaises', WHERE WHAT IT READS IS OF BULK AT MOST 1048576: true; the input reads as it did. -/
def protectRaisesUptoRow : OpenClaim := { program := "ytlfiegjpiiihfaa", sum := "ec492279b8146623b4b10b17ee8d84ea93fd04823f60f3172bba8f2963f06c0d", func := "groupcontrol/groupcontrollaw23.ProtectRaises", spec := "protectRaises", unfollowed := true, recurses := true, apart := false, narrowed := true }
def ProtectRaisesUptoSaid : Prop := protectRaisesUptoRow.holds Try.pinned (OpenSpec.upto protectRaisesSpec)

/-- 'groupcontrollaw23.ProtectAlone', WHERE WHAT IT READS IS OF BULK AT MOST 1048576: true; the input reads as it did. -/
def protectAloneUptoRow : OpenClaim := { program := "ytlfiegjpiiihfaa", sum := "ec492279b8146623b4b10b17ee8d84ea93fd04823f60f3172bba8f2963f06c0d", func := "groupcontrol/groupcontrollaw23.ProtectAlone", spec := "protectAlone", unfollowed := true, recurses := true, apart := false, narrowed := true }
def ProtectAloneUptoSaid : Prop := protectAloneUptoRow.holds Try.pinned (OpenSpec.upto protectAloneSpec)

end Rows
end Go.Proofs.Ytlfiegjpiiihfaa
