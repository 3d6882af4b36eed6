/-
  No cell of these rows narrows 'for every input' (looked for: loops, veiled, ifaces, maps, wideKeys, modest, calm, conditions, laid).
  DERIVED. THE GIVEN ROWS OF THIS SEAT. 5 by the template 'for every input the law returns true; each argument reads behind the call as it read before'; 0 by the template 'total and deterministic' (their statements: YtkkeddafdmjhlaaGreatTotals.lean).
  GIVEN WITH THE SEED: the statements are not yours to turn. If you find one false, say at which input.
  Laid BY PROGRAM, IN A SANDBOX (cutbox-rows.mjs): the forced cells as the released guide's own fill.sh prints them over the translation f228460b953373a6… (all of the seat's roots in one cut). By AI agents, Wed Nov 11 2026. No macro, syntax, notation, axiom, sorry.
-/
import Derived.Test.YtkkeddafdmjhlaaGreatChecked
import GoSem.Claim
import GoSem.ClaimJoined
import GoSem.ClaimMapViews
import Derived.JoinedTies
import Derived.KernelRfl
namespace Go.Proofs.YtkkeddafdmjhlaaGreat
/- THE CELL 'sum', in the pinned program and in every row, IS THE sha256 OF THE DUMP (.gsa) THAT YtkkeddafdmjhlaaGreatProg.lean LOADS. Nothing in Lean hashes anything: it is a label: what it is worth is what the hold of that sum in a sandbox is worth. -/
noncomputable def Tryz.pinned : Pinned := { name := "ytkkeddafdmjhlaagreat", sum := "f228460b953373a6154a4b8f2e695114891ddbf33400ff71f0f8cd576d838a94", checked := Tryz.checked }
namespace Rows
def none {H : Type} : Left H := { results := [], args := [] }

/-- 'groupcontrollaw13.CpusetValid': WHATEVER THE INPUT: true; the input reads as it did. -/
def cpusetValidSpec : ChangeSpec := { name := "cpusetValid", fn := fun _ => fun
  | [d] => { results := [.lit (.bool true)], args := [d] }
  | _ => none }
def cpusetValidRow : OpenClaim := { program := "ytkkeddafdmjhlaagreat", sum := "f228460b953373a6154a4b8f2e695114891ddbf33400ff71f0f8cd576d838a94", func := "groupcontrol/groupcontrollaw13.CpusetValid", spec := "cpusetValid", unfollowed := true, recurses := true, apart := false }
def CpusetValidSaid : Prop := cpusetValidRow.holds Tryz.pinned (OpenSpec.ofChange cpusetValidSpec)

/-- ITS FALSE NEIGHBOUR: 'it returns false'. Refute it at one input. -/
def cpusetValidWrong : ChangeSpec := { name := "cpusetValid", fn := fun _ => fun
  | [d] => { results := [.lit (.bool false)], args := [d] }
  | _ => none }
def CpusetValidWrongFalsely : Prop := cpusetValidRow.holds Tryz.pinned (OpenSpec.ofChange cpusetValidWrong)

/-- 'groupcontrollaw36.FreezeExact': WHATEVER THE INPUT: true; the input reads as it did. -/
def freezeExactSpec : ChangeSpec := { name := "freezeExact", fn := fun _ => fun
  | [d1, d2, d3, d4, d5, d6] => { results := [.lit (.bool true)], args := [d1, d2, d3, d4, d5, d6] }
  | _ => none }
def freezeExactRow : OpenClaim := { program := "ytkkeddafdmjhlaagreat", sum := "f228460b953373a6154a4b8f2e695114891ddbf33400ff71f0f8cd576d838a94", func := "groupcontrol/groupcontrollaw36.FreezeExact", spec := "freezeExact", unfollowed := true, recurses := true, apart := false }
def FreezeExactSaid : Prop := freezeExactRow.holds Tryz.pinned (OpenSpec.ofChange freezeExactSpec)

/-- ITS FALSE NEIGHBOUR: 'it returns false'. Refute it at one input. -/
def freezeExactWrong : ChangeSpec := { name := "freezeExact", fn := fun _ => fun
  | [d1, d2, d3, d4, d5, d6] => { results := [.lit (.bool false)], args := [d1, d2, d3, d4, d5, d6] }
  | _ => none }
def FreezeExactWrongFalsely : Prop := freezeExactRow.holds Tryz.pinned (OpenSpec.ofChange freezeExactWrong)

/-- 'groupcontrollaw13.CpusetApart': WHATEVER THE INPUT: true; the input reads as it did. -/
def cpusetApartSpec : ChangeSpec := { name := "cpusetApart", fn := fun _ => fun
  | [d] => { results := [.lit (.bool true)], args := [d] }
  | _ => none }
def cpusetApartRow : OpenClaim := { program := "ytkkeddafdmjhlaagreat", sum := "f228460b953373a6154a4b8f2e695114891ddbf33400ff71f0f8cd576d838a94", func := "groupcontrol/groupcontrollaw13.CpusetApart", spec := "cpusetApart", unfollowed := true, recurses := true, apart := false }
def CpusetApartSaid : Prop := cpusetApartRow.holds Tryz.pinned (OpenSpec.ofChange cpusetApartSpec)

/-- ITS FALSE NEIGHBOUR: 'it returns false'. Refute it at one input. -/
def cpusetApartWrong : ChangeSpec := { name := "cpusetApart", fn := fun _ => fun
  | [d] => { results := [.lit (.bool false)], args := [d] }
  | _ => none }
def CpusetApartWrongFalsely : Prop := cpusetApartRow.holds Tryz.pinned (OpenSpec.ofChange cpusetApartWrong)

/-- 'groupcontrollaw13.CpusetAll': WHATEVER THE INPUT: true; the input reads as it did. -/
def cpusetAllSpec : ChangeSpec := { name := "cpusetAll", fn := fun _ => fun
  | [d1, d2, d3] => { results := [.lit (.bool true)], args := [d1, d2, d3] }
  | _ => none }
def cpusetAllRow : OpenClaim := { program := "ytkkeddafdmjhlaagreat", sum := "f228460b953373a6154a4b8f2e695114891ddbf33400ff71f0f8cd576d838a94", func := "groupcontrol/groupcontrollaw13.CpusetAll", spec := "cpusetAll", unfollowed := true, recurses := true, apart := false }
def CpusetAllSaid : Prop := cpusetAllRow.holds Tryz.pinned (OpenSpec.ofChange cpusetAllSpec)

/-- ITS FALSE NEIGHBOUR: 'it returns false'. Refute it at one input. -/
def cpusetAllWrong : ChangeSpec := { name := "cpusetAll", fn := fun _ => fun
  | [d1, d2, d3] => { results := [.lit (.bool false)], args := [d1, d2, d3] }
  | _ => none }
def CpusetAllWrongFalsely : Prop := cpusetAllRow.holds Tryz.pinned (OpenSpec.ofChange cpusetAllWrong)

/-- 'groupcontrollaw13.CpusetSound': WHATEVER THE INPUT: true; the input reads as it did. -/
def cpusetSoundSpec : ChangeSpec := { name := "cpusetSound", fn := fun _ => fun
  | [d] => { results := [.lit (.bool true)], args := [d] }
  | _ => none }
def cpusetSoundRow : OpenClaim := { program := "ytkkeddafdmjhlaagreat", sum := "f228460b953373a6154a4b8f2e695114891ddbf33400ff71f0f8cd576d838a94", func := "groupcontrol/groupcontrollaw13.CpusetSound", spec := "cpusetSound", unfollowed := true, recurses := true, apart := false }
def CpusetSoundSaid : Prop := cpusetSoundRow.holds Tryz.pinned (OpenSpec.ofChange cpusetSoundSpec)

/-- ITS FALSE NEIGHBOUR: 'it returns false'. Refute it at one input. -/
def cpusetSoundWrong : ChangeSpec := { name := "cpusetSound", fn := fun _ => fun
  | [d] => { results := [.lit (.bool false)], args := [d] }
  | _ => none }
def CpusetSoundWrongFalsely : Prop := cpusetSoundRow.holds Tryz.pinned (OpenSpec.ofChange cpusetSoundWrong)

/- THE SECOND FORM. 'bulk': how many values and letters a reading holds, each counted each time it is reached (what is shared counts as often as it is met; a slice's spare places count too). A statement '..UptoSaid' is the law's where the arguments, and the package variables that the reading takes, are together of bulk at most 1048576: NARROWER than '..Said'. Prove '..Said' where nothing that the law and all that it calls make is longer than what came in: it says more and counts as full. Else prove '..UptoSaid'. A law counts once. -/
mutual
def uptoBulk {H : Type} : DataW H → Nat
  | .lit (.string bytes) => bytes.length + 1
  | .lit _ => 1
  | .nil => 1
  | .ptr d => uptoBulk d + 1
  | .slice elems spare => uptoBulkAll elems + uptoBulkAll spare + 1
  | .agg parts => uptoBulkAll parts + 1
  | .iface _ d => uptoBulk d + 1
  | .map entries => uptoBulkEntries entries + 1
  | .held _ => 1
def uptoBulkAll {H : Type} : List (DataW H) → Nat
  | [] => 0
  | d :: r => uptoBulk d + uptoBulkAll r
def uptoBulkEntries {H : Type} : List (Lit × DataW H) → Nat
  | [] => 0
  | x :: r => uptoBulkEntry x + uptoBulkEntries r
def uptoBulkEntry {H : Type} : Lit × DataW H → Nat
  | (.string bytes, d) => bytes.length + uptoBulk d + 1
  | (_, d) => uptoBulk d + 1
 end
def uptoSmall : (H : Type) → List (DataW H) → Bool := fun _ ds => decide (uptoBulkAll ds ≤ 1048576)
def OpenSpec.upto (s : _root_.Go.ChangeSpec) : _root_.Go.OpenSpec := { _root_.Go.OpenSpec.ofChange s with cond := some uptoSmall }

/-- 'groupcontrollaw13.CpusetValid', WHERE WHAT IT READS IS OF BULK AT MOST 1048576: true; the input reads as it did. -/
def cpusetValidUptoRow : OpenClaim := { program := "ytkkeddafdmjhlaagreat", sum := "f228460b953373a6154a4b8f2e695114891ddbf33400ff71f0f8cd576d838a94", func := "groupcontrol/groupcontrollaw13.CpusetValid", spec := "cpusetValid", unfollowed := true, recurses := true, apart := false, narrowed := true }
def CpusetValidUptoSaid : Prop := cpusetValidUptoRow.holds Tryz.pinned (OpenSpec.upto cpusetValidSpec)

/-- 'groupcontrollaw36.FreezeExact', WHERE WHAT IT READS IS OF BULK AT MOST 1048576: true; the input reads as it did. -/
def freezeExactUptoRow : OpenClaim := { program := "ytkkeddafdmjhlaagreat", sum := "f228460b953373a6154a4b8f2e695114891ddbf33400ff71f0f8cd576d838a94", func := "groupcontrol/groupcontrollaw36.FreezeExact", spec := "freezeExact", unfollowed := true, recurses := true, apart := false, narrowed := true }
def FreezeExactUptoSaid : Prop := freezeExactUptoRow.holds Tryz.pinned (OpenSpec.upto freezeExactSpec)

/-- 'groupcontrollaw13.CpusetApart', WHERE WHAT IT READS IS OF BULK AT MOST 1048576: true; the input reads as it did. -/
def cpusetApartUptoRow : OpenClaim := { program := "ytkkeddafdmjhlaagreat", sum := "f228460b953373a6154a4b8f2e695114891ddbf33400ff71f0f8cd576d838a94", func := "groupcontrol/groupcontrollaw13.CpusetApart", spec := "cpusetApart", unfollowed := true, recurses := true, apart := false, narrowed := true }
def CpusetApartUptoSaid : Prop := cpusetApartUptoRow.holds Tryz.pinned (OpenSpec.upto cpusetApartSpec)

/-- 'groupcontrollaw13.CpusetAll', WHERE WHAT IT READS IS OF BULK AT MOST 1048576: true; the input reads as it did. -/
def cpusetAllUptoRow : OpenClaim := { program := "ytkkeddafdmjhlaagreat", sum := "f228460b953373a6154a4b8f2e695114891ddbf33400ff71f0f8cd576d838a94", func := "groupcontrol/groupcontrollaw13.CpusetAll", spec := "cpusetAll", unfollowed := true, recurses := true, apart := false, narrowed := true }
def CpusetAllUptoSaid : Prop := cpusetAllUptoRow.holds Tryz.pinned (OpenSpec.upto cpusetAllSpec)

/-- 'groupcontrollaw13.CpusetSound', WHERE WHAT IT READS IS OF BULK AT MOST 1048576: true; the input reads as it did. -/
def cpusetSoundUptoRow : OpenClaim := { program := "ytkkeddafdmjhlaagreat", sum := "f228460b953373a6154a4b8f2e695114891ddbf33400ff71f0f8cd576d838a94", func := "groupcontrol/groupcontrollaw13.CpusetSound", spec := "cpusetSound", unfollowed := true, recurses := true, apart := false, narrowed := true }
def CpusetSoundUptoSaid : Prop := cpusetSoundUptoRow.holds Tryz.pinned (OpenSpec.upto cpusetSoundSpec)

end Rows
end Go.Proofs.YtkkeddafdmjhlaaGreat
