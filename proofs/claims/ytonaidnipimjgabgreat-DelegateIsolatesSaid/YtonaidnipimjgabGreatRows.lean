/-
  No cell of these rows narrows 'for every input' (looked for: loops, veiled, ifaces, maps, wideKeys, modest, calm, conditions, laid).
  DERIVED. THE GIVEN ROWS OF THIS SEAT. 2 by the template 'for every input the law returns true; each argument reads behind the call as it read before'; 0 by the template 'total and deterministic' (their statements: YtonaidnipimjgabGreatTotals.lean).
  GIVEN WITH THE SEED: the statements are not yours to turn. If you find one false, say at which input.
  Laid BY PROGRAM, IN A SANDBOX (cutbox-rows.mjs): the forced cells as the released guide's own fill.sh prints them over the translation a943e4db18c241d7… (all of the seat's roots in one cut). By AI agents, Wed Nov 11 2026. No macro, syntax, notation, axiom, sorry.
-/
import Derived.Test.YtonaidnipimjgabGreatChecked
import GoSem.Claim
import GoSem.ClaimJoined
import GoSem.ClaimMapViews
import Derived.JoinedTies
import Derived.KernelRfl
namespace Go.Proofs.YtonaidnipimjgabGreat
/- THE CELL 'sum', in the pinned program and in every row, IS THE sha256 OF THE DUMP (.gsa) THAT YtonaidnipimjgabGreatProg.lean LOADS. Nothing in Lean hashes anything: it is a label: what it is worth is what the hold of that sum in a sandbox is worth. -/
noncomputable def Tryz.pinned : Pinned := { name := "ytonaidnipimjgabgreat", sum := "a943e4db18c241d7017030a38113ae3cba78b0c3c00201ec83328a93dabb6876", checked := Tryz.checked }
namespace Rows
def none {H : Type} : Left H := { results := [], args := [] }

/-- 'groupcontrollaw9.DelegateActs': WHATEVER THE INPUT: true; the input reads as it did. -/
def delegateActsSpec : ChangeSpec := { name := "delegateActs", fn := fun _ => fun
  | [d1, d2] => { results := [.lit (.bool true)], args := [d1, d2] }
  | _ => none }
def delegateActsRow : OpenClaim := { program := "ytonaidnipimjgabgreat", sum := "a943e4db18c241d7017030a38113ae3cba78b0c3c00201ec83328a93dabb6876", func := "groupcontrol/groupcontrollaw9.DelegateActs", spec := "delegateActs", unfollowed := true, recurses := true, apart := false }
def DelegateActsSaid : Prop := delegateActsRow.holds Tryz.pinned (OpenSpec.ofChange delegateActsSpec)

/-- ITS FALSE NEIGHBOUR: 'it returns false'. Refute it at one input. -/
def delegateActsWrong : ChangeSpec := { name := "delegateActs", fn := fun _ => fun
  | [d1, d2] => { results := [.lit (.bool false)], args := [d1, d2] }
  | _ => none }
def DelegateActsWrongFalsely : Prop := delegateActsRow.holds Tryz.pinned (OpenSpec.ofChange delegateActsWrong)

/-- 'groupcontrollaw9.DelegateIsolates': WHATEVER THE INPUT: true; the input reads as it did. -/
def delegateIsolatesSpec : ChangeSpec := { name := "delegateIsolates", fn := fun _ => fun
  | [d] => { results := [.lit (.bool true)], args := [d] }
  | _ => none }
def delegateIsolatesRow : OpenClaim := { program := "ytonaidnipimjgabgreat", sum := "a943e4db18c241d7017030a38113ae3cba78b0c3c00201ec83328a93dabb6876", func := "groupcontrol/groupcontrollaw9.DelegateIsolates", spec := "delegateIsolates", unfollowed := true, recurses := true, apart := false }
def DelegateIsolatesSaid : Prop := delegateIsolatesRow.holds Tryz.pinned (OpenSpec.ofChange delegateIsolatesSpec)

/-- ITS FALSE NEIGHBOUR: 'it returns false'. Refute it at one input. -/
def delegateIsolatesWrong : ChangeSpec := { name := "delegateIsolates", fn := fun _ => fun
  | [d] => { results := [.lit (.bool false)], args := [d] }
  | _ => none }
def DelegateIsolatesWrongFalsely : Prop := delegateIsolatesRow.holds Tryz.pinned (OpenSpec.ofChange delegateIsolatesWrong)

/- THE SECOND FORM. 'bulk': how many values and letters a reading holds, each counted each time it is reached (what is shared counts as often as it is met; a slice's spare places count too). A statement '..UptoSaid' is the law's where the arguments, and the package variables that the reading takes, are together of bulk at most 1048576: NARROWER than '..Said'. Prove '..Said' where nothing that the law and all that it calls make is longer than what came in: it says more and counts as full. Else prove '..UptoSaid'. A law counts once. -/
mutual
def uptoBulk {H : Type} : DataW H → Nat
  | .lit (.string bytes) => bytes.length + 1
  | .lit _ => 1
  | .nil => 1
  | .ptr d => uptoBulk d + 1
  | .slice elems spare => uptoBulkAll elems + uptoBulkAll spare + 1
  | .agg parts => uptoBulkAll parts + 1
  | .iface _ d => uptoBulk d + 1
  | .map entries => uptoBulkEntries entries + 1
  | .held _ => 1
def uptoBulkAll {H : Type} : List (DataW H) → Nat
  | [] => 0
  | d :: r => uptoBulk d + uptoBulkAll r
def uptoBulkEntries {H : Type} : List (Lit × DataW H) → Nat
  | [] => 0
  | x :: r => uptoBulkEntry x + uptoBulkEntries r
def uptoBulkEntry {H : Type} : Lit × DataW H → Nat
  | (.string bytes, d) => bytes.length + uptoBulk d + 1
  | (_, d) => uptoBulk d + 1
 end
def uptoSmall : (H : Type) → List (DataW H) → Bool := fun _ ds => decide (uptoBulkAll ds ≤ 1048576)
def OpenSpec.upto (s : _root_.Go.ChangeSpec) : _root_.Go.OpenSpec := { _root_.Go.OpenSpec.ofChange s with cond := some uptoSmall }

/-- 'groupcontrollaw9.DelegateActs', WHERE WHAT IT READS IS OF BULK AT MOST 1048576: true; the input reads as it did. -/
def delegateActsUptoRow : OpenClaim := { program := "ytonaidnipimjgabgreat", sum := "a943e4db18c241d7017030a38113ae3cba78b0c3c00201ec83328a93dabb6876", func := "groupcontrol/groupcontrollaw9.DelegateActs", spec := "delegateActs", unfollowed := true, recurses := true, apart := false, narrowed := true }
def DelegateActsUptoSaid : Prop := delegateActsUptoRow.holds Tryz.pinned (OpenSpec.upto delegateActsSpec)

/-- 'groupcontrollaw9.DelegateIsolates', WHERE WHAT IT READS IS OF BULK AT MOST 1048576: true; the input reads as it did. -/
def delegateIsolatesUptoRow : OpenClaim := { program := "ytonaidnipimjgabgreat", sum := "a943e4db18c241d7017030a38113ae3cba78b0c3c00201ec83328a93dabb6876", func := "groupcontrol/groupcontrollaw9.DelegateIsolates", spec := "delegateIsolates", unfollowed := true, recurses := true, apart := false, narrowed := true }
def DelegateIsolatesUptoSaid : Prop := delegateIsolatesUptoRow.holds Tryz.pinned (OpenSpec.upto delegateIsolatesSpec)

end Rows
end Go.Proofs.YtonaidnipimjgabGreat
