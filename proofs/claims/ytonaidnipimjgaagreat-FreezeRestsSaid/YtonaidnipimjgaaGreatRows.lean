/-
  No cell of these rows narrows 'for every input' (looked for: loops, veiled, ifaces, maps, wideKeys, modest, calm, conditions, laid).
  DERIVED. THE GIVEN ROWS OF THIS SEAT. 10 by the template 'for every input the law returns true; each argument reads behind the call as it read before'; 0 by the template 'total and deterministic' (their statements: YtonaidnipimjgaaGreatTotals.lean).
  GIVEN WITH THE SEED: the statements are not yours to turn. If you find one false, say at which input.
  Laid BY PROGRAM, IN A SANDBOX (cutbox-rows.mjs): the forced cells as the released guide's own fill.sh prints them over the translation 844e9b8c52c17805… (all of the seat's roots in one cut). By AI agents, Wed Nov 11 2026. No macro, syntax, notation, axiom, sorry.
-/
import Derived.Test.YtonaidnipimjgaaGreatChecked
import GoSem.Claim
import GoSem.ClaimJoined
import GoSem.ClaimMapViews
import Derived.JoinedTies
import Derived.KernelRfl
namespace Go.Proofs.YtonaidnipimjgaaGreat
/- THE CELL 'sum', in the pinned program and in every row, IS THE sha256 OF THE DUMP (.gsa) THAT YtonaidnipimjgaaGreatProg.lean LOADS. Nothing in Lean hashes anything: it is a label: what it is worth is what the hold of that sum in a sandbox is worth. -/
noncomputable def Tryz.pinned : Pinned := { name := "ytonaidnipimjgaagreat", sum := "844e9b8c52c17805c0e9963c6cc523361f23445bee1fb449fe23bcdbb89bf95b", checked := Tryz.checked }
namespace Rows
def none {H : Type} : Left H := { results := [], args := [] }

/-- 'groupcontrollaw6.MemberReads': WHATEVER THE INPUT: true; the input reads as it did. -/
def memberReadsSpec : ChangeSpec := { name := "memberReads", fn := fun _ => fun
  | [d1, d2, d3] => { results := [.lit (.bool true)], args := [d1, d2, d3] }
  | _ => none }
def memberReadsRow : OpenClaim := { program := "ytonaidnipimjgaagreat", sum := "844e9b8c52c17805c0e9963c6cc523361f23445bee1fb449fe23bcdbb89bf95b", func := "groupcontrol/groupcontrollaw6.MemberReads", spec := "memberReads", unfollowed := true, recurses := true, apart := false }
def MemberReadsSaid : Prop := memberReadsRow.holds Tryz.pinned (OpenSpec.ofChange memberReadsSpec)

/-- ITS FALSE NEIGHBOUR: 'it returns false'. Refute it at one input. -/
def memberReadsWrong : ChangeSpec := { name := "memberReads", fn := fun _ => fun
  | [d1, d2, d3] => { results := [.lit (.bool false)], args := [d1, d2, d3] }
  | _ => none }
def MemberReadsWrongFalsely : Prop := memberReadsRow.holds Tryz.pinned (OpenSpec.ofChange memberReadsWrong)

/-- 'groupcontrollaw13.CpusetValid': WHATEVER THE INPUT: true; the input reads as it did. -/
def cpusetValidSpec : ChangeSpec := { name := "cpusetValid", fn := fun _ => fun
  | [d] => { results := [.lit (.bool true)], args := [d] }
  | _ => none }
def cpusetValidRow : OpenClaim := { program := "ytonaidnipimjgaagreat", sum := "844e9b8c52c17805c0e9963c6cc523361f23445bee1fb449fe23bcdbb89bf95b", func := "groupcontrol/groupcontrollaw13.CpusetValid", spec := "cpusetValid", unfollowed := true, recurses := true, apart := false }
def CpusetValidSaid : Prop := cpusetValidRow.holds Tryz.pinned (OpenSpec.ofChange cpusetValidSpec)

/-- ITS FALSE NEIGHBOUR: 'it returns false'. Refute it at one input. -/
def cpusetValidWrong : ChangeSpec := { name := "cpusetValid", fn := fun _ => fun
  | [d] => { results := [.lit (.bool false)], args := [d] }
  | _ => none }
def CpusetValidWrongFalsely : Prop := cpusetValidRow.holds Tryz.pinned (OpenSpec.ofChange cpusetValidWrong)

/-- 'groupcontrollaw36.FreezeThaws': WHATEVER THE INPUT: true; the input reads as it did. -/
def freezeThawsSpec : ChangeSpec := { name := "freezeThaws", fn := fun _ => fun
  | [d] => { results := [.lit (.bool true)], args := [d] }
  | _ => none }
def freezeThawsRow : OpenClaim := { program := "ytonaidnipimjgaagreat", sum := "844e9b8c52c17805c0e9963c6cc523361f23445bee1fb449fe23bcdbb89bf95b", func := "groupcontrol/groupcontrollaw36.FreezeThaws", spec := "freezeThaws", unfollowed := true, recurses := true, apart := false }
def FreezeThawsSaid : Prop := freezeThawsRow.holds Tryz.pinned (OpenSpec.ofChange freezeThawsSpec)

/-- ITS FALSE NEIGHBOUR: 'it returns false'. Refute it at one input. -/
def freezeThawsWrong : ChangeSpec := { name := "freezeThaws", fn := fun _ => fun
  | [d] => { results := [.lit (.bool false)], args := [d] }
  | _ => none }
def FreezeThawsWrongFalsely : Prop := freezeThawsRow.holds Tryz.pinned (OpenSpec.ofChange freezeThawsWrong)

/-- 'groupcontrollaw36.FreezeRests': WHATEVER THE INPUT: true; the input reads as it did. -/
def freezeRestsSpec : ChangeSpec := { name := "freezeRests", fn := fun _ => fun
  | [d] => { results := [.lit (.bool true)], args := [d] }
  | _ => none }
def freezeRestsRow : OpenClaim := { program := "ytonaidnipimjgaagreat", sum := "844e9b8c52c17805c0e9963c6cc523361f23445bee1fb449fe23bcdbb89bf95b", func := "groupcontrol/groupcontrollaw36.FreezeRests", spec := "freezeRests", unfollowed := true, recurses := true, apart := false }
def FreezeRestsSaid : Prop := freezeRestsRow.holds Tryz.pinned (OpenSpec.ofChange freezeRestsSpec)

/-- ITS FALSE NEIGHBOUR: 'it returns false'. Refute it at one input. -/
def freezeRestsWrong : ChangeSpec := { name := "freezeRests", fn := fun _ => fun
  | [d] => { results := [.lit (.bool false)], args := [d] }
  | _ => none }
def FreezeRestsWrongFalsely : Prop := freezeRestsRow.holds Tryz.pinned (OpenSpec.ofChange freezeRestsWrong)

/-- 'groupcontrollaw36.FreezeStops': WHATEVER THE INPUT: true; the input reads as it did. -/
def freezeStopsSpec : ChangeSpec := { name := "freezeStops", fn := fun _ => fun
  | [d] => { results := [.lit (.bool true)], args := [d] }
  | _ => none }
def freezeStopsRow : OpenClaim := { program := "ytonaidnipimjgaagreat", sum := "844e9b8c52c17805c0e9963c6cc523361f23445bee1fb449fe23bcdbb89bf95b", func := "groupcontrol/groupcontrollaw36.FreezeStops", spec := "freezeStops", unfollowed := true, recurses := true, apart := false }
def FreezeStopsSaid : Prop := freezeStopsRow.holds Tryz.pinned (OpenSpec.ofChange freezeStopsSpec)

/-- ITS FALSE NEIGHBOUR: 'it returns false'. Refute it at one input. -/
def freezeStopsWrong : ChangeSpec := { name := "freezeStops", fn := fun _ => fun
  | [d] => { results := [.lit (.bool false)], args := [d] }
  | _ => none }
def FreezeStopsWrongFalsely : Prop := freezeStopsRow.holds Tryz.pinned (OpenSpec.ofChange freezeStopsWrong)

/-- 'groupcontrollaw36.FreezeExact': WHATEVER THE INPUT: true; the input reads as it did. -/
def freezeExactSpec : ChangeSpec := { name := "freezeExact", fn := fun _ => fun
  | [d1, d2, d3, d4, d5, d6] => { results := [.lit (.bool true)], args := [d1, d2, d3, d4, d5, d6] }
  | _ => none }
def freezeExactRow : OpenClaim := { program := "ytonaidnipimjgaagreat", sum := "844e9b8c52c17805c0e9963c6cc523361f23445bee1fb449fe23bcdbb89bf95b", func := "groupcontrol/groupcontrollaw36.FreezeExact", spec := "freezeExact", unfollowed := true, recurses := true, apart := false }
def FreezeExactSaid : Prop := freezeExactRow.holds Tryz.pinned (OpenSpec.ofChange freezeExactSpec)

/-- ITS FALSE NEIGHBOUR: 'it returns false'. Refute it at one input. -/
def freezeExactWrong : ChangeSpec := { name := "freezeExact", fn := fun _ => fun
  | [d1, d2, d3, d4, d5, d6] => { results := [.lit (.bool false)], args := [d1, d2, d3, d4, d5, d6] }
  | _ => none }
def FreezeExactWrongFalsely : Prop := freezeExactRow.holds Tryz.pinned (OpenSpec.ofChange freezeExactWrong)

/-- 'groupcontrollaw36.FreezeMoves': WHATEVER THE INPUT: true; the input reads as it did. -/
def freezeMovesSpec : ChangeSpec := { name := "freezeMoves", fn := fun _ => fun
  | [d] => { results := [.lit (.bool true)], args := [d] }
  | _ => none }
def freezeMovesRow : OpenClaim := { program := "ytonaidnipimjgaagreat", sum := "844e9b8c52c17805c0e9963c6cc523361f23445bee1fb449fe23bcdbb89bf95b", func := "groupcontrol/groupcontrollaw36.FreezeMoves", spec := "freezeMoves", unfollowed := true, recurses := true, apart := false }
def FreezeMovesSaid : Prop := freezeMovesRow.holds Tryz.pinned (OpenSpec.ofChange freezeMovesSpec)

/-- ITS FALSE NEIGHBOUR: 'it returns false'. Refute it at one input. -/
def freezeMovesWrong : ChangeSpec := { name := "freezeMoves", fn := fun _ => fun
  | [d] => { results := [.lit (.bool false)], args := [d] }
  | _ => none }
def FreezeMovesWrongFalsely : Prop := freezeMovesRow.holds Tryz.pinned (OpenSpec.ofChange freezeMovesWrong)

/-- 'groupcontrollaw13.CpusetApart': WHATEVER THE INPUT: true; the input reads as it did. -/
def cpusetApartSpec : ChangeSpec := { name := "cpusetApart", fn := fun _ => fun
  | [d] => { results := [.lit (.bool true)], args := [d] }
  | _ => none }
def cpusetApartRow : OpenClaim := { program := "ytonaidnipimjgaagreat", sum := "844e9b8c52c17805c0e9963c6cc523361f23445bee1fb449fe23bcdbb89bf95b", func := "groupcontrol/groupcontrollaw13.CpusetApart", spec := "cpusetApart", unfollowed := true, recurses := true, apart := false }
def CpusetApartSaid : Prop := cpusetApartRow.holds Tryz.pinned (OpenSpec.ofChange cpusetApartSpec)

/-- ITS FALSE NEIGHBOUR: 'it returns false'. Refute it at one input. -/
def cpusetApartWrong : ChangeSpec := { name := "cpusetApart", fn := fun _ => fun
  | [d] => { results := [.lit (.bool false)], args := [d] }
  | _ => none }
def CpusetApartWrongFalsely : Prop := cpusetApartRow.holds Tryz.pinned (OpenSpec.ofChange cpusetApartWrong)

/-- 'groupcontrollaw13.CpusetAll': WHATEVER THE INPUT: true; the input reads as it did. -/
def cpusetAllSpec : ChangeSpec := { name := "cpusetAll", fn := fun _ => fun
  | [d1, d2, d3] => { results := [.lit (.bool true)], args := [d1, d2, d3] }
  | _ => none }
def cpusetAllRow : OpenClaim := { program := "ytonaidnipimjgaagreat", sum := "844e9b8c52c17805c0e9963c6cc523361f23445bee1fb449fe23bcdbb89bf95b", func := "groupcontrol/groupcontrollaw13.CpusetAll", spec := "cpusetAll", unfollowed := true, recurses := true, apart := false }
def CpusetAllSaid : Prop := cpusetAllRow.holds Tryz.pinned (OpenSpec.ofChange cpusetAllSpec)

/-- ITS FALSE NEIGHBOUR: 'it returns false'. Refute it at one input. -/
def cpusetAllWrong : ChangeSpec := { name := "cpusetAll", fn := fun _ => fun
  | [d1, d2, d3] => { results := [.lit (.bool false)], args := [d1, d2, d3] }
  | _ => none }
def CpusetAllWrongFalsely : Prop := cpusetAllRow.holds Tryz.pinned (OpenSpec.ofChange cpusetAllWrong)

/-- 'groupcontrollaw13.CpusetSound': WHATEVER THE INPUT: true; the input reads as it did. -/
def cpusetSoundSpec : ChangeSpec := { name := "cpusetSound", fn := fun _ => fun
  | [d] => { results := [.lit (.bool true)], args := [d] }
  | _ => none }
def cpusetSoundRow : OpenClaim := { program := "ytonaidnipimjgaagreat", sum := "844e9b8c52c17805c0e9963c6cc523361f23445bee1fb449fe23bcdbb89bf95b", func := "groupcontrol/groupcontrollaw13.CpusetSound", spec := "cpusetSound", unfollowed := true, recurses := true, apart := false }
def CpusetSoundSaid : Prop := cpusetSoundRow.holds Tryz.pinned (OpenSpec.ofChange cpusetSoundSpec)

/-- ITS FALSE NEIGHBOUR: 'it returns false'. Refute it at one input. -/
def cpusetSoundWrong : ChangeSpec := { name := "cpusetSound", fn := fun _ => fun
  | [d] => { results := [.lit (.bool false)], args := [d] }
  | _ => none }
def CpusetSoundWrongFalsely : Prop := cpusetSoundRow.holds Tryz.pinned (OpenSpec.ofChange cpusetSoundWrong)

/- THE SECOND FORM. 'bulk': how many values and letters a reading holds, each counted each time it is reached (what is shared counts as often as it is met; a slice's spare places count too). A statement '..UptoSaid' is the law's where the arguments, and the package variables that the reading takes, are together of bulk at most 1048576: NARROWER than '..Said'. Prove '..Said' where nothing that the law and all that it calls make is longer than what came in: it says more and counts as full. Else prove '..UptoSaid'. A law counts once. -/
mutual
def uptoBulk {H : Type} : DataW H → Nat
  | .lit (.string bytes) => bytes.length + 1
  | .lit _ => 1
  | .nil => 1
  | .ptr d => uptoBulk d + 1
  | .slice elems spare => uptoBulkAll elems + uptoBulkAll spare + 1
  | .agg parts => uptoBulkAll parts + 1
  | .iface _ d => uptoBulk d + 1
  | .map entries => uptoBulkEntries entries + 1
  | .held _ => 1
def uptoBulkAll {H : Type} : List (DataW H) → Nat
  | [] => 0
  | d :: r => uptoBulk d + uptoBulkAll r
def uptoBulkEntries {H : Type} : List (Lit × DataW H) → Nat
  | [] => 0
  | x :: r => uptoBulkEntry x + uptoBulkEntries r
def uptoBulkEntry {H : Type} : Lit × DataW H → Nat
  | (.string bytes, d) => bytes.length + uptoBulk d + 1
  | (_, d) => uptoBulk d + 1
 end
def uptoSmall : (H : Type) → List (DataW H) → Bool := fun _ ds => decide (uptoBulkAll ds ≤ 1048576)
def OpenSpec.upto (s : _root_.Go.ChangeSpec) : _root_.Go.OpenSpec := { _root_.Go.OpenSpec.ofChange s with cond := some uptoSmall }

/-- 'groupcontrollaw6.MemberReads', WHERE WHAT IT READS IS OF BULK AT MOST 1048576: true; the input reads as it did. -/
def memberReadsUptoRow : OpenClaim := { program := "ytonaidnipimjgaagreat", sum := "844e9b8c52c17805c0e9963c6cc523361f23445bee1fb449fe23bcdbb89bf95b", func := "groupcontrol/groupcontrollaw6.MemberReads", spec := "memberReads", unfollowed := true, recurses := true, apart := false, narrowed := true }
def MemberReadsUptoSaid : Prop := memberReadsUptoRow.holds Tryz.pinned (OpenSpec.upto memberReadsSpec)

/-- 'groupcontrollaw13.CpusetValid', WHERE WHAT IT READS IS OF BULK AT MOST 1048576: true; the input reads as it did. -/
def cpusetValidUptoRow : OpenClaim := { program := "ytonaidnipimjgaagreat", sum := "844e9b8c52c17805c0e9963c6cc523361f23445bee1fb449fe23bcdbb89bf95b", func := "groupcontrol/groupcontrollaw13.CpusetValid", spec := "cpusetValid", unfollowed := true, recurses := true, apart := false, narrowed := true }
def CpusetValidUptoSaid : Prop := cpusetValidUptoRow.holds Tryz.pinned (OpenSpec.upto cpusetValidSpec)

/-- 'groupcontrollaw36.FreezeThaws', WHERE WHAT IT READS IS OF BULK AT MOST 1048576: true; the input reads as it did. -/
def freezeThawsUptoRow : OpenClaim := { program := "ytonaidnipimjgaagreat", sum := "844e9b8c52c17805c0e9963c6cc523361f23445bee1fb449fe23bcdbb89bf95b", func := "groupcontrol/groupcontrollaw36.FreezeThaws", spec := "freezeThaws", unfollowed := true, recurses := true, apart := false, narrowed := true }
def FreezeThawsUptoSaid : Prop := freezeThawsUptoRow.holds Tryz.pinned (OpenSpec.upto freezeThawsSpec)

/-- 'groupcontrollaw36.FreezeRests', WHERE WHAT IT READS IS OF BULK AT MOST 1048576: true; the input reads as it did. -/
def freezeRestsUptoRow : OpenClaim := { program := "ytonaidnipimjgaagreat", sum := "844e9b8c52c17805c0e9963c6cc523361f23445bee1fb449fe23bcdbb89bf95b", func := "groupcontrol/groupcontrollaw36.FreezeRests", spec := "freezeRests", unfollowed := true, recurses := true, apart := false, narrowed := true }
def FreezeRestsUptoSaid : Prop := freezeRestsUptoRow.holds Tryz.pinned (OpenSpec.upto freezeRestsSpec)

/-- 'groupcontrollaw36.FreezeStops', WHERE WHAT IT READS IS OF BULK AT MOST 1048576: true; the input reads as it did. -/
def freezeStopsUptoRow : OpenClaim := { program := "ytonaidnipimjgaagreat", sum := "844e9b8c52c17805c0e9963c6cc523361f23445bee1fb449fe23bcdbb89bf95b", func := "groupcontrol/groupcontrollaw36.FreezeStops", spec := "freezeStops", unfollowed := true, recurses := true, apart := false, narrowed := true }
def FreezeStopsUptoSaid : Prop := freezeStopsUptoRow.holds Tryz.pinned (OpenSpec.upto freezeStopsSpec)

/-- 'groupcontrollaw36.FreezeExact', WHERE WHAT IT READS IS OF BULK AT MOST 1048576: true; the input reads as it did. -/
def freezeExactUptoRow : OpenClaim := { program := "ytonaidnipimjgaagreat", sum := "844e9b8c52c17805c0e9963c6cc523361f23445bee1fb449fe23bcdbb89bf95b", func := "groupcontrol/groupcontrollaw36.FreezeExact", spec := "freezeExact", unfollowed := true, recurses := true, apart := false, narrowed := true }
def FreezeExactUptoSaid : Prop := freezeExactUptoRow.holds Tryz.pinned (OpenSpec.upto freezeExactSpec)

/-- 'groupcontrollaw36.FreezeMoves', WHERE WHAT IT READS IS OF BULK AT MOST 1048576: true; the input reads as it did. -/
def freezeMovesUptoRow : OpenClaim := { program := "ytonaidnipimjgaagreat", sum := "844e9b8c52c17805c0e9963c6cc523361f23445bee1fb449fe23bcdbb89bf95b", func := "groupcontrol/groupcontrollaw36.FreezeMoves", spec := "freezeMoves", unfollowed := true, recurses := true, apart := false, narrowed := true }
def FreezeMovesUptoSaid : Prop := freezeMovesUptoRow.holds Tryz.pinned (OpenSpec.upto freezeMovesSpec)

/-- 'groupcontrollaw13.CpusetApart', WHERE WHAT IT READS IS OF BULK AT MOST 1048576: true; the input reads as it did. -/
def cpusetApartUptoRow : OpenClaim := { program := "ytonaidnipimjgaagreat", sum := "844e9b8c52c17805c0e9963c6cc523361f23445bee1fb449fe23bcdbb89bf95b", func := "groupcontrol/groupcontrollaw13.CpusetApart", spec := "cpusetApart", unfollowed := true, recurses := true, apart := false, narrowed := true }
def CpusetApartUptoSaid : Prop := cpusetApartUptoRow.holds Tryz.pinned (OpenSpec.upto cpusetApartSpec)

/-- 'groupcontrollaw13.CpusetAll', WHERE WHAT IT READS IS OF BULK AT MOST 1048576: true; the input reads as it did. -/
def cpusetAllUptoRow : OpenClaim := { program := "ytonaidnipimjgaagreat", sum := "844e9b8c52c17805c0e9963c6cc523361f23445bee1fb449fe23bcdbb89bf95b", func := "groupcontrol/groupcontrollaw13.CpusetAll", spec := "cpusetAll", unfollowed := true, recurses := true, apart := false, narrowed := true }
def CpusetAllUptoSaid : Prop := cpusetAllUptoRow.holds Tryz.pinned (OpenSpec.upto cpusetAllSpec)

/-- 'groupcontrollaw13.CpusetSound', WHERE WHAT IT READS IS OF BULK AT MOST 1048576: true; the input reads as it did. -/
def cpusetSoundUptoRow : OpenClaim := { program := "ytonaidnipimjgaagreat", sum := "844e9b8c52c17805c0e9963c6cc523361f23445bee1fb449fe23bcdbb89bf95b", func := "groupcontrol/groupcontrollaw13.CpusetSound", spec := "cpusetSound", unfollowed := true, recurses := true, apart := false, narrowed := true }
def CpusetSoundUptoSaid : Prop := cpusetSoundUptoRow.holds Tryz.pinned (OpenSpec.upto cpusetSoundSpec)

end Rows
end Go.Proofs.YtonaidnipimjgaaGreat
