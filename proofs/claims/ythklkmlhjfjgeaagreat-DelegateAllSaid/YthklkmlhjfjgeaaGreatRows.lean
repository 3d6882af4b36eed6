/-
  No cell of these rows narrows 'for every input' (looked for: loops, veiled, ifaces, maps, wideKeys, modest, calm, conditions, laid).
  DERIVED. THE GIVEN ROWS OF THIS SEAT. 12 by the template 'for every input the law returns true; each argument reads behind the call as it read before'; 0 by the template 'total and deterministic' (their statements: YthklkmlhjfjgeaaGreatTotals.lean).
  GIVEN WITH THE SEED: the statements are not yours to turn. If you find one false, say at which input.
  Laid BY PROGRAM, IN A SANDBOX (cutbox-rows.mjs): the forced cells as the released guide's own fill.sh prints them over the translation 9e00cfa2ed48db22… (all of the seat's roots in one cut). By AI agents, Wed Nov 11 2026. No macro, syntax, notation, axiom, sorry.
-/
import Derived.Test.YthklkmlhjfjgeaaGreatChecked
import GoSem.Claim
import GoSem.ClaimJoined
import GoSem.ClaimMapViews
import Derived.JoinedTies
import Derived.KernelRfl
namespace Go.Proofs.YthklkmlhjfjgeaaGreat
/- THE CELL 'sum', in the pinned program and in every row, IS THE sha256 OF THE DUMP (.gsa) THAT YthklkmlhjfjgeaaGreatProg.lean LOADS. Nothing in Lean hashes anything: it is a label: what it is worth is what the hold of that sum in a sandbox is worth. -/
noncomputable def Tryz.pinned : Pinned := { name := "ythklkmlhjfjgeaagreat", sum := "9e00cfa2ed48db22de2063a745dcc456aa1dbf4029e59f53d7c3a68a7102daea", checked := Tryz.checked }
namespace Rows
def none {H : Type} : Left H := { results := [], args := [] }

/-- 'groupcontrollaw8.ThreadedCreates': WHATEVER THE INPUT: true; the input reads as it did. -/
def threadedCreatesSpec : ChangeSpec := { name := "threadedCreates", fn := fun _ => fun
  | [d] => { results := [.lit (.bool true)], args := [d] }
  | _ => none }
def threadedCreatesRow : OpenClaim := { program := "ythklkmlhjfjgeaagreat", sum := "9e00cfa2ed48db22de2063a745dcc456aa1dbf4029e59f53d7c3a68a7102daea", func := "groupcontrol/groupcontrollaw8.ThreadedCreates", spec := "threadedCreates", unfollowed := true, recurses := true, apart := false }
def ThreadedCreatesSaid : Prop := threadedCreatesRow.holds Tryz.pinned (OpenSpec.ofChange threadedCreatesSpec)

/-- ITS FALSE NEIGHBOUR: 'it returns false'. Refute it at one input. -/
def threadedCreatesWrong : ChangeSpec := { name := "threadedCreates", fn := fun _ => fun
  | [d] => { results := [.lit (.bool false)], args := [d] }
  | _ => none }
def ThreadedCreatesWrongFalsely : Prop := threadedCreatesRow.holds Tryz.pinned (OpenSpec.ofChange threadedCreatesWrong)

/-- 'groupcontrollaw8.ThreadedDomains': WHATEVER THE INPUT: true; the input reads as it did. -/
def threadedDomainsSpec : ChangeSpec := { name := "threadedDomains", fn := fun _ => fun
  | [d] => { results := [.lit (.bool true)], args := [d] }
  | _ => none }
def threadedDomainsRow : OpenClaim := { program := "ythklkmlhjfjgeaagreat", sum := "9e00cfa2ed48db22de2063a745dcc456aa1dbf4029e59f53d7c3a68a7102daea", func := "groupcontrol/groupcontrollaw8.ThreadedDomains", spec := "threadedDomains", unfollowed := true, recurses := true, apart := false }
def ThreadedDomainsSaid : Prop := threadedDomainsRow.holds Tryz.pinned (OpenSpec.ofChange threadedDomainsSpec)

/-- ITS FALSE NEIGHBOUR: 'it returns false'. Refute it at one input. -/
def threadedDomainsWrong : ChangeSpec := { name := "threadedDomains", fn := fun _ => fun
  | [d] => { results := [.lit (.bool false)], args := [d] }
  | _ => none }
def ThreadedDomainsWrongFalsely : Prop := threadedDomainsRow.holds Tryz.pinned (OpenSpec.ofChange threadedDomainsWrong)

/-- 'groupcontrollaw8.ThreadedUseless': WHATEVER THE INPUT: true; the input reads as it did. -/
def threadedUselessSpec : ChangeSpec := { name := "threadedUseless", fn := fun _ => fun
  | [d] => { results := [.lit (.bool true)], args := [d] }
  | _ => none }
def threadedUselessRow : OpenClaim := { program := "ythklkmlhjfjgeaagreat", sum := "9e00cfa2ed48db22de2063a745dcc456aa1dbf4029e59f53d7c3a68a7102daea", func := "groupcontrol/groupcontrollaw8.ThreadedUseless", spec := "threadedUseless", unfollowed := true, recurses := true, apart := false }
def ThreadedUselessSaid : Prop := threadedUselessRow.holds Tryz.pinned (OpenSpec.ofChange threadedUselessSpec)

/-- ITS FALSE NEIGHBOUR: 'it returns false'. Refute it at one input. -/
def threadedUselessWrong : ChangeSpec := { name := "threadedUseless", fn := fun _ => fun
  | [d] => { results := [.lit (.bool false)], args := [d] }
  | _ => none }
def ThreadedUselessWrongFalsely : Prop := threadedUselessRow.holds Tryz.pinned (OpenSpec.ofChange threadedUselessWrong)

/-- 'groupcontrollaw8.ThreadedReads': WHATEVER THE INPUT: true; the input reads as it did. -/
def threadedReadsSpec : ChangeSpec := { name := "threadedReads", fn := fun _ => fun
  | [d1, d2] => { results := [.lit (.bool true)], args := [d1, d2] }
  | _ => none }
def threadedReadsRow : OpenClaim := { program := "ythklkmlhjfjgeaagreat", sum := "9e00cfa2ed48db22de2063a745dcc456aa1dbf4029e59f53d7c3a68a7102daea", func := "groupcontrol/groupcontrollaw8.ThreadedReads", spec := "threadedReads", unfollowed := true, recurses := true, apart := false }
def ThreadedReadsSaid : Prop := threadedReadsRow.holds Tryz.pinned (OpenSpec.ofChange threadedReadsSpec)

/-- ITS FALSE NEIGHBOUR: 'it returns false'. Refute it at one input. -/
def threadedReadsWrong : ChangeSpec := { name := "threadedReads", fn := fun _ => fun
  | [d1, d2] => { results := [.lit (.bool false)], args := [d1, d2] }
  | _ => none }
def ThreadedReadsWrongFalsely : Prop := threadedReadsRow.holds Tryz.pinned (OpenSpec.ofChange threadedReadsWrong)

/-- 'groupcontrollaw8.ThreadedMoves': WHATEVER THE INPUT: true; the input reads as it did. -/
def threadedMovesSpec : ChangeSpec := { name := "threadedMoves", fn := fun _ => fun
  | [d] => { results := [.lit (.bool true)], args := [d] }
  | _ => none }
def threadedMovesRow : OpenClaim := { program := "ythklkmlhjfjgeaagreat", sum := "9e00cfa2ed48db22de2063a745dcc456aa1dbf4029e59f53d7c3a68a7102daea", func := "groupcontrol/groupcontrollaw8.ThreadedMoves", spec := "threadedMoves", unfollowed := true, recurses := true, apart := false }
def ThreadedMovesSaid : Prop := threadedMovesRow.holds Tryz.pinned (OpenSpec.ofChange threadedMovesSpec)

/-- ITS FALSE NEIGHBOUR: 'it returns false'. Refute it at one input. -/
def threadedMovesWrong : ChangeSpec := { name := "threadedMoves", fn := fun _ => fun
  | [d] => { results := [.lit (.bool false)], args := [d] }
  | _ => none }
def ThreadedMovesWrongFalsely : Prop := threadedMovesRow.holds Tryz.pinned (OpenSpec.ofChange threadedMovesWrong)

/-- 'groupcontrollaw8.ThreadedChanges': WHATEVER THE INPUT: true; the input reads as it did. -/
def threadedChangesSpec : ChangeSpec := { name := "threadedChanges", fn := fun _ => fun
  | [d1, d2] => { results := [.lit (.bool true)], args := [d1, d2] }
  | _ => none }
def threadedChangesRow : OpenClaim := { program := "ythklkmlhjfjgeaagreat", sum := "9e00cfa2ed48db22de2063a745dcc456aa1dbf4029e59f53d7c3a68a7102daea", func := "groupcontrol/groupcontrollaw8.ThreadedChanges", spec := "threadedChanges", unfollowed := true, recurses := true, apart := false }
def ThreadedChangesSaid : Prop := threadedChangesRow.holds Tryz.pinned (OpenSpec.ofChange threadedChangesSpec)

/-- ITS FALSE NEIGHBOUR: 'it returns false'. Refute it at one input. -/
def threadedChangesWrong : ChangeSpec := { name := "threadedChanges", fn := fun _ => fun
  | [d1, d2] => { results := [.lit (.bool false)], args := [d1, d2] }
  | _ => none }
def ThreadedChangesWrongFalsely : Prop := threadedChangesRow.holds Tryz.pinned (OpenSpec.ofChange threadedChangesWrong)

/-- 'groupcontrollaw8.ThreadedKeeps': WHATEVER THE INPUT: true; the input reads as it did. -/
def threadedKeepsSpec : ChangeSpec := { name := "threadedKeeps", fn := fun _ => fun
  | [d] => { results := [.lit (.bool true)], args := [d] }
  | _ => none }
def threadedKeepsRow : OpenClaim := { program := "ythklkmlhjfjgeaagreat", sum := "9e00cfa2ed48db22de2063a745dcc456aa1dbf4029e59f53d7c3a68a7102daea", func := "groupcontrol/groupcontrollaw8.ThreadedKeeps", spec := "threadedKeeps", unfollowed := true, recurses := true, apart := false }
def ThreadedKeepsSaid : Prop := threadedKeepsRow.holds Tryz.pinned (OpenSpec.ofChange threadedKeepsSpec)

/-- ITS FALSE NEIGHBOUR: 'it returns false'. Refute it at one input. -/
def threadedKeepsWrong : ChangeSpec := { name := "threadedKeeps", fn := fun _ => fun
  | [d] => { results := [.lit (.bool false)], args := [d] }
  | _ => none }
def ThreadedKeepsWrongFalsely : Prop := threadedKeepsRow.holds Tryz.pinned (OpenSpec.ofChange threadedKeepsWrong)

/-- 'groupcontrollaw9.DelegateGrants': WHATEVER THE INPUT: true; the input reads as it did. -/
def delegateGrantsSpec : ChangeSpec := { name := "delegateGrants", fn := fun _ => fun
  | [d] => { results := [.lit (.bool true)], args := [d] }
  | _ => none }
def delegateGrantsRow : OpenClaim := { program := "ythklkmlhjfjgeaagreat", sum := "9e00cfa2ed48db22de2063a745dcc456aa1dbf4029e59f53d7c3a68a7102daea", func := "groupcontrol/groupcontrollaw9.DelegateGrants", spec := "delegateGrants", unfollowed := true, recurses := true, apart := false }
def DelegateGrantsSaid : Prop := delegateGrantsRow.holds Tryz.pinned (OpenSpec.ofChange delegateGrantsSpec)

/-- ITS FALSE NEIGHBOUR: 'it returns false'. Refute it at one input. -/
def delegateGrantsWrong : ChangeSpec := { name := "delegateGrants", fn := fun _ => fun
  | [d] => { results := [.lit (.bool false)], args := [d] }
  | _ => none }
def DelegateGrantsWrongFalsely : Prop := delegateGrantsRow.holds Tryz.pinned (OpenSpec.ofChange delegateGrantsWrong)

/-- 'groupcontrollaw9.DelegateAll': WHATEVER THE INPUT: true; the input reads as it did. -/
def delegateAllSpec : ChangeSpec := { name := "delegateAll", fn := fun _ => fun
  | [d] => { results := [.lit (.bool true)], args := [d] }
  | _ => none }
def delegateAllRow : OpenClaim := { program := "ythklkmlhjfjgeaagreat", sum := "9e00cfa2ed48db22de2063a745dcc456aa1dbf4029e59f53d7c3a68a7102daea", func := "groupcontrol/groupcontrollaw9.DelegateAll", spec := "delegateAll", unfollowed := true, recurses := true, apart := false }
def DelegateAllSaid : Prop := delegateAllRow.holds Tryz.pinned (OpenSpec.ofChange delegateAllSpec)

/-- ITS FALSE NEIGHBOUR: 'it returns false'. Refute it at one input. -/
def delegateAllWrong : ChangeSpec := { name := "delegateAll", fn := fun _ => fun
  | [d] => { results := [.lit (.bool false)], args := [d] }
  | _ => none }
def DelegateAllWrongFalsely : Prop := delegateAllRow.holds Tryz.pinned (OpenSpec.ofChange delegateAllWrong)

/-- 'groupcontrollaw9.DelegateRights': WHATEVER THE INPUT: true; the input reads as it did. -/
def delegateRightsSpec : ChangeSpec := { name := "delegateRights", fn := fun _ => fun
  | [d1, d2, d3] => { results := [.lit (.bool true)], args := [d1, d2, d3] }
  | _ => none }
def delegateRightsRow : OpenClaim := { program := "ythklkmlhjfjgeaagreat", sum := "9e00cfa2ed48db22de2063a745dcc456aa1dbf4029e59f53d7c3a68a7102daea", func := "groupcontrol/groupcontrollaw9.DelegateRights", spec := "delegateRights", unfollowed := true, recurses := true, apart := false }
def DelegateRightsSaid : Prop := delegateRightsRow.holds Tryz.pinned (OpenSpec.ofChange delegateRightsSpec)

/-- ITS FALSE NEIGHBOUR: 'it returns false'. Refute it at one input. -/
def delegateRightsWrong : ChangeSpec := { name := "delegateRights", fn := fun _ => fun
  | [d1, d2, d3] => { results := [.lit (.bool false)], args := [d1, d2, d3] }
  | _ => none }
def DelegateRightsWrongFalsely : Prop := delegateRightsRow.holds Tryz.pinned (OpenSpec.ofChange delegateRightsWrong)

/-- 'groupcontrollaw9.DelegateCrosses': WHATEVER THE INPUT: true; the input reads as it did. -/
def delegateCrossesSpec : ChangeSpec := { name := "delegateCrosses", fn := fun _ => fun
  | [d] => { results := [.lit (.bool true)], args := [d] }
  | _ => none }
def delegateCrossesRow : OpenClaim := { program := "ythklkmlhjfjgeaagreat", sum := "9e00cfa2ed48db22de2063a745dcc456aa1dbf4029e59f53d7c3a68a7102daea", func := "groupcontrol/groupcontrollaw9.DelegateCrosses", spec := "delegateCrosses", unfollowed := true, recurses := true, apart := false }
def DelegateCrossesSaid : Prop := delegateCrossesRow.holds Tryz.pinned (OpenSpec.ofChange delegateCrossesSpec)

/-- ITS FALSE NEIGHBOUR: 'it returns false'. Refute it at one input. -/
def delegateCrossesWrong : ChangeSpec := { name := "delegateCrosses", fn := fun _ => fun
  | [d] => { results := [.lit (.bool false)], args := [d] }
  | _ => none }
def DelegateCrossesWrongFalsely : Prop := delegateCrossesRow.holds Tryz.pinned (OpenSpec.ofChange delegateCrossesWrong)

/-- 'groupcontrollaw9.DelegateActs': WHATEVER THE INPUT: true; the input reads as it did. -/
def delegateActsSpec : ChangeSpec := { name := "delegateActs", fn := fun _ => fun
  | [d1, d2] => { results := [.lit (.bool true)], args := [d1, d2] }
  | _ => none }
def delegateActsRow : OpenClaim := { program := "ythklkmlhjfjgeaagreat", sum := "9e00cfa2ed48db22de2063a745dcc456aa1dbf4029e59f53d7c3a68a7102daea", func := "groupcontrol/groupcontrollaw9.DelegateActs", spec := "delegateActs", unfollowed := true, recurses := true, apart := false }
def DelegateActsSaid : Prop := delegateActsRow.holds Tryz.pinned (OpenSpec.ofChange delegateActsSpec)

/-- ITS FALSE NEIGHBOUR: 'it returns false'. Refute it at one input. -/
def delegateActsWrong : ChangeSpec := { name := "delegateActs", fn := fun _ => fun
  | [d1, d2] => { results := [.lit (.bool false)], args := [d1, d2] }
  | _ => none }
def DelegateActsWrongFalsely : Prop := delegateActsRow.holds Tryz.pinned (OpenSpec.ofChange delegateActsWrong)

/- THE SECOND FORM. 'bulk': how many values and letters a reading holds, each counted each time it is reached (what is shared counts as often as it is met; a slice's spare places count too). A statement '..UptoSaid' is the law's where the arguments, and the package variables that the reading takes, are together of bulk at most 1048576: NARROWER than '..Said'. Prove '..Said' where nothing that the law and all that it calls make is longer than what came in: it says more and counts as full. Else prove '..UptoSaid'. A law counts once. -/
mutual
def uptoBulk {H : Type} : DataW H → Nat
  | .lit (.string bytes) => bytes.length + 1
  | .lit _ => 1
  | .nil => 1
  | .ptr d => uptoBulk d + 1
  | .slice elems spare => uptoBulkAll elems + uptoBulkAll spare + 1
  | .agg parts => uptoBulkAll parts + 1
  | .iface _ d => uptoBulk d + 1
  | .map entries => uptoBulkEntries entries + 1
  | .held _ => 1
def uptoBulkAll {H : Type} : List (DataW H) → Nat
  | [] => 0
  | d :: r => uptoBulk d + uptoBulkAll r
def uptoBulkEntries {H : Type} : List (Lit × DataW H) → Nat
  | [] => 0
  | x :: r => uptoBulkEntry x + uptoBulkEntries r
def uptoBulkEntry {H : Type} : Lit × DataW H → Nat
  | (.string bytes, d) => bytes.length + uptoBulk d + 1
  | (_, d) => uptoBulk d + 1
 end
def uptoSmall : (H : Type) → List (DataW H) → Bool := fun _ ds => decide (uptoBulkAll ds ≤ 1048576)
def OpenSpec.upto (s : _root_.Go.ChangeSpec) : _root_.Go.OpenSpec := { _root_.Go.OpenSpec.ofChange s with cond := some uptoSmall }

/-- 'groupcontrollaw8.ThreadedCreates', WHERE WHAT IT READS IS OF BULK AT MOST 1048576: true; the input reads as it did. -/
def threadedCreatesUptoRow : OpenClaim := { program := "ythklkmlhjfjgeaagreat", sum := "9e00cfa2ed48db22de2063a745dcc456aa1dbf4029e59f53d7c3a68a7102daea", func := "groupcontrol/groupcontrollaw8.ThreadedCreates", spec := "threadedCreates", unfollowed := true, recurses := true, apart := false, narrowed := true }
def ThreadedCreatesUptoSaid : Prop := threadedCreatesUptoRow.holds Tryz.pinned (OpenSpec.upto threadedCreatesSpec)

/-- 'groupcontrollaw8.ThreadedDomains', WHERE WHAT IT READS IS OF BULK AT MOST 1048576: true; the input reads as it did. -/
def threadedDomainsUptoRow : OpenClaim := { program := "ythklkmlhjfjgeaagreat", sum := "9e00cfa2ed48db22de2063a745dcc456aa1dbf4029e59f53d7c3a68a7102daea", func := "groupcontrol/groupcontrollaw8.ThreadedDomains", spec := "threadedDomains", unfollowed := true, recurses := true, apart := false, narrowed := true }
def ThreadedDomainsUptoSaid : Prop := threadedDomainsUptoRow.holds Tryz.pinned (OpenSpec.upto threadedDomainsSpec)

/-- 'groupcontrollaw8.ThreadedUseless', WHERE WHAT IT READS IS OF BULK AT MOST 1048576: true; the input reads as it did. -/
def threadedUselessUptoRow : OpenClaim := { program := "ythklkmlhjfjgeaagreat", sum := "9e00cfa2ed48db22de2063a745dcc456aa1dbf4029e59f53d7c3a68a7102daea", func := "groupcontrol/groupcontrollaw8.ThreadedUseless", spec := "threadedUseless", unfollowed := true, recurses := true, apart := false, narrowed := true }
def ThreadedUselessUptoSaid : Prop := threadedUselessUptoRow.holds Tryz.pinned (OpenSpec.upto threadedUselessSpec)

/-- 'groupcontrollaw8.ThreadedReads', WHERE WHAT IT READS IS OF BULK AT MOST 1048576: true; the input reads as it did. -/
def threadedReadsUptoRow : OpenClaim := { program := "ythklkmlhjfjgeaagreat", sum := "9e00cfa2ed48db22de2063a745dcc456aa1dbf4029e59f53d7c3a68a7102daea", func := "groupcontrol/groupcontrollaw8.ThreadedReads", spec := "threadedReads", unfollowed := true, recurses := true, apart := false, narrowed := true }
def ThreadedReadsUptoSaid : Prop := threadedReadsUptoRow.holds Tryz.pinned (OpenSpec.upto threadedReadsSpec)

/-- 'groupcontrollaw8.ThreadedMoves', WHERE WHAT IT READS IS OF BULK AT MOST 1048576: true; the input reads as it did. -/
def threadedMovesUptoRow : OpenClaim := { program := "ythklkmlhjfjgeaagreat", sum := "9e00cfa2ed48db22de2063a745dcc456aa1dbf4029e59f53d7c3a68a7102daea", func := "groupcontrol/groupcontrollaw8.ThreadedMoves", spec := "threadedMoves", unfollowed := true, recurses := true, apart := false, narrowed := true }
def ThreadedMovesUptoSaid : Prop := threadedMovesUptoRow.holds Tryz.pinned (OpenSpec.upto threadedMovesSpec)

/-- 'groupcontrollaw8.ThreadedChanges', WHERE WHAT IT READS IS OF BULK AT MOST 1048576: true; the input reads as it did. -/
def threadedChangesUptoRow : OpenClaim := { program := "ythklkmlhjfjgeaagreat", sum := "9e00cfa2ed48db22de2063a745dcc456aa1dbf4029e59f53d7c3a68a7102daea", func := "groupcontrol/groupcontrollaw8.ThreadedChanges", spec := "threadedChanges", unfollowed := true, recurses := true, apart := false, narrowed := true }
def ThreadedChangesUptoSaid : Prop := threadedChangesUptoRow.holds Tryz.pinned (OpenSpec.upto threadedChangesSpec)

/-- 'groupcontrollaw8.ThreadedKeeps', WHERE WHAT IT READS IS OF BULK AT MOST 1048576: true; the input reads as it did. -/
def threadedKeepsUptoRow : OpenClaim := { program := "ythklkmlhjfjgeaagreat", sum := "9e00cfa2ed48db22de2063a745dcc456aa1dbf4029e59f53d7c3a68a7102daea", func := "groupcontrol/groupcontrollaw8.ThreadedKeeps", spec := "threadedKeeps", unfollowed := true, recurses := true, apart := false, narrowed := true }
def ThreadedKeepsUptoSaid : Prop := threadedKeepsUptoRow.holds Tryz.pinned (OpenSpec.upto threadedKeepsSpec)

/-- 'groupcontrollaw9.DelegateGrants', WHERE WHAT IT READS IS OF BULK AT MOST 1048576: true; the input reads as it did. -/
def delegateGrantsUptoRow : OpenClaim := { program := "ythklkmlhjfjgeaagreat", sum := "9e00cfa2ed48db22de2063a745dcc456aa1dbf4029e59f53d7c3a68a7102daea", func := "groupcontrol/groupcontrollaw9.DelegateGrants", spec := "delegateGrants", unfollowed := true, recurses := true, apart := false, narrowed := true }
def DelegateGrantsUptoSaid : Prop := delegateGrantsUptoRow.holds Tryz.pinned (OpenSpec.upto delegateGrantsSpec)

/-- 'groupcontrollaw9.DelegateAll', WHERE WHAT IT READS IS OF BULK AT MOST 1048576: true; the input reads as it did. -/
def delegateAllUptoRow : OpenClaim := { program := "ythklkmlhjfjgeaagreat", sum := "9e00cfa2ed48db22de2063a745dcc456aa1dbf4029e59f53d7c3a68a7102daea", func := "groupcontrol/groupcontrollaw9.DelegateAll", spec := "delegateAll", unfollowed := true, recurses := true, apart := false, narrowed := true }
def DelegateAllUptoSaid : Prop := delegateAllUptoRow.holds Tryz.pinned (OpenSpec.upto delegateAllSpec)

/-- 'groupcontrollaw9.DelegateRights', WHERE WHAT IT READS IS OF BULK AT MOST 1048576: true; the input reads as it did. -/
def delegateRightsUptoRow : OpenClaim := { program := "ythklkmlhjfjgeaagreat", sum := "9e00cfa2ed48db22de2063a745dcc456aa1dbf4029e59f53d7c3a68a7102daea", func := "groupcontrol/groupcontrollaw9.DelegateRights", spec := "delegateRights", unfollowed := true, recurses := true, apart := false, narrowed := true }
def DelegateRightsUptoSaid : Prop := delegateRightsUptoRow.holds Tryz.pinned (OpenSpec.upto delegateRightsSpec)

/-- 'groupcontrollaw9.DelegateCrosses', WHERE WHAT IT READS IS OF BULK AT MOST 1048576: true; the input reads as it did. -/
def delegateCrossesUptoRow : OpenClaim := { program := "ythklkmlhjfjgeaagreat", sum := "9e00cfa2ed48db22de2063a745dcc456aa1dbf4029e59f53d7c3a68a7102daea", func := "groupcontrol/groupcontrollaw9.DelegateCrosses", spec := "delegateCrosses", unfollowed := true, recurses := true, apart := false, narrowed := true }
def DelegateCrossesUptoSaid : Prop := delegateCrossesUptoRow.holds Tryz.pinned (OpenSpec.upto delegateCrossesSpec)

/-- 'groupcontrollaw9.DelegateActs', WHERE WHAT IT READS IS OF BULK AT MOST 1048576: true; the input reads as it did. -/
def delegateActsUptoRow : OpenClaim := { program := "ythklkmlhjfjgeaagreat", sum := "9e00cfa2ed48db22de2063a745dcc456aa1dbf4029e59f53d7c3a68a7102daea", func := "groupcontrol/groupcontrollaw9.DelegateActs", spec := "delegateActs", unfollowed := true, recurses := true, apart := false, narrowed := true }
def DelegateActsUptoSaid : Prop := delegateActsUptoRow.holds Tryz.pinned (OpenSpec.upto delegateActsSpec)

end Rows
end Go.Proofs.YthklkmlhjfjgeaaGreat
