/-
  No cell of these rows narrows 'for every input' (looked for: loops, veiled, ifaces, maps, wideKeys, modest, calm, conditions, laid).
  DERIVED. THE GIVEN ROWS OF THIS SEAT. 11 by the template 'for every input the law returns true; each argument reads behind the call as it read before'; 0 by the template 'total and deterministic' (their statements: YtdckdjkjjmadeaaGreatTotals.lean).
  GIVEN WITH THE SEED: the statements are not yours to turn. If you find one false, say at which input.
  Laid BY PROGRAM, IN A SANDBOX (cutbox-rows.mjs): the forced cells as the released guide's own fill.sh prints them over the translation a00d8a1efc060b0f… (all of the seat's roots in one cut). By AI agents, Wed Nov 11 2026. No macro, syntax, notation, axiom, sorry.
-/
import Derived.Test.YtdckdjkjjmadeaaGreatChecked
import GoSem.Claim
import GoSem.ClaimJoined
import GoSem.ClaimMapViews
import Derived.JoinedTies
import Derived.KernelRfl
namespace Go.Proofs.YtdckdjkjjmadeaaGreat
/- THE CELL 'sum', in the pinned program and in every row, IS THE sha256 OF THE DUMP (.gsa) THAT YtdckdjkjjmadeaaGreatProg.lean LOADS. Nothing in Lean hashes anything: it is a label: what it is worth is what the hold of that sum in a sandbox is worth. -/
noncomputable def Tryz.pinned : Pinned := { name := "ytdckdjkjjmadeaagreat", sum := "a00d8a1efc060b0f4612db0c186b0782774b9f78fbd5e8029fd290ade06d7c83", checked := Tryz.checked }
namespace Rows
def none {H : Type} : Left H := { results := [], args := [] }

/-- 'groupcontrollaw10.PidsRefuses': WHATEVER THE INPUT: true; the input reads as it did. -/
def pidsRefusesSpec : ChangeSpec := { name := "pidsRefuses", fn := fun _ => fun
  | [d] => { results := [.lit (.bool true)], args := [d] }
  | _ => none }
def pidsRefusesRow : OpenClaim := { program := "ytdckdjkjjmadeaagreat", sum := "a00d8a1efc060b0f4612db0c186b0782774b9f78fbd5e8029fd290ade06d7c83", func := "groupcontrol/groupcontrollaw10.PidsRefuses", spec := "pidsRefuses", unfollowed := true, recurses := true, apart := false }
def PidsRefusesSaid : Prop := pidsRefusesRow.holds Tryz.pinned (OpenSpec.ofChange pidsRefusesSpec)

/-- ITS FALSE NEIGHBOUR: 'it returns false'. Refute it at one input. -/
def pidsRefusesWrong : ChangeSpec := { name := "pidsRefuses", fn := fun _ => fun
  | [d] => { results := [.lit (.bool false)], args := [d] }
  | _ => none }
def PidsRefusesWrongFalsely : Prop := pidsRefusesRow.holds Tryz.pinned (OpenSpec.ofChange pidsRefusesWrong)

/-- 'groupcontrollaw10.PidsSums': WHATEVER THE INPUT: true; the input reads as it did. -/
def pidsSumsSpec : ChangeSpec := { name := "pidsSums", fn := fun _ => fun
  | [d] => { results := [.lit (.bool true)], args := [d] }
  | _ => none }
def pidsSumsRow : OpenClaim := { program := "ytdckdjkjjmadeaagreat", sum := "a00d8a1efc060b0f4612db0c186b0782774b9f78fbd5e8029fd290ade06d7c83", func := "groupcontrol/groupcontrollaw10.PidsSums", spec := "pidsSums", unfollowed := true, recurses := true, apart := false }
def PidsSumsSaid : Prop := pidsSumsRow.holds Tryz.pinned (OpenSpec.ofChange pidsSumsSpec)

/-- ITS FALSE NEIGHBOUR: 'it returns false'. Refute it at one input. -/
def pidsSumsWrong : ChangeSpec := { name := "pidsSums", fn := fun _ => fun
  | [d] => { results := [.lit (.bool false)], args := [d] }
  | _ => none }
def PidsSumsWrongFalsely : Prop := pidsSumsRow.holds Tryz.pinned (OpenSpec.ofChange pidsSumsWrong)

/-- 'groupcontrollaw10.PidsPeaks': WHATEVER THE INPUT: true; the input reads as it did. -/
def pidsPeaksSpec : ChangeSpec := { name := "pidsPeaks", fn := fun _ => fun
  | [d1, d2] => { results := [.lit (.bool true)], args := [d1, d2] }
  | _ => none }
def pidsPeaksRow : OpenClaim := { program := "ytdckdjkjjmadeaagreat", sum := "a00d8a1efc060b0f4612db0c186b0782774b9f78fbd5e8029fd290ade06d7c83", func := "groupcontrol/groupcontrollaw10.PidsPeaks", spec := "pidsPeaks", unfollowed := true, recurses := true, apart := false }
def PidsPeaksSaid : Prop := pidsPeaksRow.holds Tryz.pinned (OpenSpec.ofChange pidsPeaksSpec)

/-- ITS FALSE NEIGHBOUR: 'it returns false'. Refute it at one input. -/
def pidsPeaksWrong : ChangeSpec := { name := "pidsPeaks", fn := fun _ => fun
  | [d1, d2] => { results := [.lit (.bool false)], args := [d1, d2] }
  | _ => none }
def PidsPeaksWrongFalsely : Prop := pidsPeaksRow.holds Tryz.pinned (OpenSpec.ofChange pidsPeaksWrong)

/-- 'groupcontrollaw10.PidsCounts': WHATEVER THE INPUT: true; the input reads as it did. -/
def pidsCountsSpec : ChangeSpec := { name := "pidsCounts", fn := fun _ => fun
  | [d1, d2, d3] => { results := [.lit (.bool true)], args := [d1, d2, d3] }
  | _ => none }
def pidsCountsRow : OpenClaim := { program := "ytdckdjkjjmadeaagreat", sum := "a00d8a1efc060b0f4612db0c186b0782774b9f78fbd5e8029fd290ade06d7c83", func := "groupcontrol/groupcontrollaw10.PidsCounts", spec := "pidsCounts", unfollowed := true, recurses := true, apart := false }
def PidsCountsSaid : Prop := pidsCountsRow.holds Tryz.pinned (OpenSpec.ofChange pidsCountsSpec)

/-- ITS FALSE NEIGHBOUR: 'it returns false'. Refute it at one input. -/
def pidsCountsWrong : ChangeSpec := { name := "pidsCounts", fn := fun _ => fun
  | [d1, d2, d3] => { results := [.lit (.bool false)], args := [d1, d2, d3] }
  | _ => none }
def PidsCountsWrongFalsely : Prop := pidsCountsRow.holds Tryz.pinned (OpenSpec.ofChange pidsCountsWrong)

/-- 'groupcontrollaw6.MemberLeaders': WHATEVER THE INPUT: true; the input reads as it did. -/
def memberLeadersSpec : ChangeSpec := { name := "memberLeaders", fn := fun _ => fun
  | [d] => { results := [.lit (.bool true)], args := [d] }
  | _ => none }
def memberLeadersRow : OpenClaim := { program := "ytdckdjkjjmadeaagreat", sum := "a00d8a1efc060b0f4612db0c186b0782774b9f78fbd5e8029fd290ade06d7c83", func := "groupcontrol/groupcontrollaw6.MemberLeaders", spec := "memberLeaders", unfollowed := true, recurses := true, apart := false }
def MemberLeadersSaid : Prop := memberLeadersRow.holds Tryz.pinned (OpenSpec.ofChange memberLeadersSpec)

/-- ITS FALSE NEIGHBOUR: 'it returns false'. Refute it at one input. -/
def memberLeadersWrong : ChangeSpec := { name := "memberLeaders", fn := fun _ => fun
  | [d] => { results := [.lit (.bool false)], args := [d] }
  | _ => none }
def MemberLeadersWrongFalsely : Prop := memberLeadersRow.holds Tryz.pinned (OpenSpec.ofChange memberLeadersWrong)

/-- 'groupcontrollaw6.MemberThreads': WHATEVER THE INPUT: true; the input reads as it did. -/
def memberThreadsSpec : ChangeSpec := { name := "memberThreads", fn := fun _ => fun
  | [d] => { results := [.lit (.bool true)], args := [d] }
  | _ => none }
def memberThreadsRow : OpenClaim := { program := "ytdckdjkjjmadeaagreat", sum := "a00d8a1efc060b0f4612db0c186b0782774b9f78fbd5e8029fd290ade06d7c83", func := "groupcontrol/groupcontrollaw6.MemberThreads", spec := "memberThreads", unfollowed := true, recurses := true, apart := false }
def MemberThreadsSaid : Prop := memberThreadsRow.holds Tryz.pinned (OpenSpec.ofChange memberThreadsSpec)

/-- ITS FALSE NEIGHBOUR: 'it returns false'. Refute it at one input. -/
def memberThreadsWrong : ChangeSpec := { name := "memberThreads", fn := fun _ => fun
  | [d] => { results := [.lit (.bool false)], args := [d] }
  | _ => none }
def MemberThreadsWrongFalsely : Prop := memberThreadsRow.holds Tryz.pinned (OpenSpec.ofChange memberThreadsWrong)

/-- 'groupcontrollaw6.MemberReads': WHATEVER THE INPUT: true; the input reads as it did. -/
def memberReadsSpec : ChangeSpec := { name := "memberReads", fn := fun _ => fun
  | [d1, d2, d3] => { results := [.lit (.bool true)], args := [d1, d2, d3] }
  | _ => none }
def memberReadsRow : OpenClaim := { program := "ytdckdjkjjmadeaagreat", sum := "a00d8a1efc060b0f4612db0c186b0782774b9f78fbd5e8029fd290ade06d7c83", func := "groupcontrol/groupcontrollaw6.MemberReads", spec := "memberReads", unfollowed := true, recurses := true, apart := false }
def MemberReadsSaid : Prop := memberReadsRow.holds Tryz.pinned (OpenSpec.ofChange memberReadsSpec)

/-- ITS FALSE NEIGHBOUR: 'it returns false'. Refute it at one input. -/
def memberReadsWrong : ChangeSpec := { name := "memberReads", fn := fun _ => fun
  | [d1, d2, d3] => { results := [.lit (.bool false)], args := [d1, d2, d3] }
  | _ => none }
def MemberReadsWrongFalsely : Prop := memberReadsRow.holds Tryz.pinned (OpenSpec.ofChange memberReadsWrong)

/-- 'groupcontrollaw6.MemberChanges': WHATEVER THE INPUT: true; the input reads as it did. -/
def memberChangesSpec : ChangeSpec := { name := "memberChanges", fn := fun _ => fun
  | [d1, d2] => { results := [.lit (.bool true)], args := [d1, d2] }
  | _ => none }
def memberChangesRow : OpenClaim := { program := "ytdckdjkjjmadeaagreat", sum := "a00d8a1efc060b0f4612db0c186b0782774b9f78fbd5e8029fd290ade06d7c83", func := "groupcontrol/groupcontrollaw6.MemberChanges", spec := "memberChanges", unfollowed := true, recurses := true, apart := false }
def MemberChangesSaid : Prop := memberChangesRow.holds Tryz.pinned (OpenSpec.ofChange memberChangesSpec)

/-- ITS FALSE NEIGHBOUR: 'it returns false'. Refute it at one input. -/
def memberChangesWrong : ChangeSpec := { name := "memberChanges", fn := fun _ => fun
  | [d1, d2] => { results := [.lit (.bool false)], args := [d1, d2] }
  | _ => none }
def MemberChangesWrongFalsely : Prop := memberChangesRow.holds Tryz.pinned (OpenSpec.ofChange memberChangesWrong)

/-- 'groupcontrollaw6.MemberSums': WHATEVER THE INPUT: true; the input reads as it did. -/
def memberSumsSpec : ChangeSpec := { name := "memberSums", fn := fun _ => fun
  | [d] => { results := [.lit (.bool true)], args := [d] }
  | _ => none }
def memberSumsRow : OpenClaim := { program := "ytdckdjkjjmadeaagreat", sum := "a00d8a1efc060b0f4612db0c186b0782774b9f78fbd5e8029fd290ade06d7c83", func := "groupcontrol/groupcontrollaw6.MemberSums", spec := "memberSums", unfollowed := true, recurses := true, apart := false }
def MemberSumsSaid : Prop := memberSumsRow.holds Tryz.pinned (OpenSpec.ofChange memberSumsSpec)

/-- ITS FALSE NEIGHBOUR: 'it returns false'. Refute it at one input. -/
def memberSumsWrong : ChangeSpec := { name := "memberSums", fn := fun _ => fun
  | [d] => { results := [.lit (.bool false)], args := [d] }
  | _ => none }
def MemberSumsWrongFalsely : Prop := memberSumsRow.holds Tryz.pinned (OpenSpec.ofChange memberSumsWrong)

/-- 'groupcontrollaw10.PidsForks': WHATEVER THE INPUT: true; the input reads as it did. -/
def pidsForksSpec : ChangeSpec := { name := "pidsForks", fn := fun _ => fun
  | [d1, d2] => { results := [.lit (.bool true)], args := [d1, d2] }
  | _ => none }
def pidsForksRow : OpenClaim := { program := "ytdckdjkjjmadeaagreat", sum := "a00d8a1efc060b0f4612db0c186b0782774b9f78fbd5e8029fd290ade06d7c83", func := "groupcontrol/groupcontrollaw10.PidsForks", spec := "pidsForks", unfollowed := true, recurses := true, apart := false }
def PidsForksSaid : Prop := pidsForksRow.holds Tryz.pinned (OpenSpec.ofChange pidsForksSpec)

/-- ITS FALSE NEIGHBOUR: 'it returns false'. Refute it at one input. -/
def pidsForksWrong : ChangeSpec := { name := "pidsForks", fn := fun _ => fun
  | [d1, d2] => { results := [.lit (.bool false)], args := [d1, d2] }
  | _ => none }
def PidsForksWrongFalsely : Prop := pidsForksRow.holds Tryz.pinned (OpenSpec.ofChange pidsForksWrong)

/-- 'groupcontrollaw10.PidsLimits': WHATEVER THE INPUT: true; the input reads as it did. -/
def pidsLimitsSpec : ChangeSpec := { name := "pidsLimits", fn := fun _ => fun
  | [d] => { results := [.lit (.bool true)], args := [d] }
  | _ => none }
def pidsLimitsRow : OpenClaim := { program := "ytdckdjkjjmadeaagreat", sum := "a00d8a1efc060b0f4612db0c186b0782774b9f78fbd5e8029fd290ade06d7c83", func := "groupcontrol/groupcontrollaw10.PidsLimits", spec := "pidsLimits", unfollowed := true, recurses := true, apart := false }
def PidsLimitsSaid : Prop := pidsLimitsRow.holds Tryz.pinned (OpenSpec.ofChange pidsLimitsSpec)

/-- ITS FALSE NEIGHBOUR: 'it returns false'. Refute it at one input. -/
def pidsLimitsWrong : ChangeSpec := { name := "pidsLimits", fn := fun _ => fun
  | [d] => { results := [.lit (.bool false)], args := [d] }
  | _ => none }
def PidsLimitsWrongFalsely : Prop := pidsLimitsRow.holds Tryz.pinned (OpenSpec.ofChange pidsLimitsWrong)

/- THE SECOND FORM. 'bulk': how many values and letters a reading holds, each counted each time it is reached (what is shared counts as often as it is met; a slice's spare places count too). A statement '..UptoSaid' is the law's where the arguments, and the package variables that the reading takes, are together of bulk at most 1048576: NARROWER than '..Said'. Prove '..Said' where nothing that the law and all that it calls make is longer than what came in: it says more and counts as full. Else prove '..UptoSaid'. A law counts once. -/
mutual
def uptoBulk {H : Type} : DataW H → Nat
  | .lit (.string bytes) => bytes.length + 1
  | .lit _ => 1
  | .nil => 1
  | .ptr d => uptoBulk d + 1
  | .slice elems spare => uptoBulkAll elems + uptoBulkAll spare + 1
  | .agg parts => uptoBulkAll parts + 1
  | .iface _ d => uptoBulk d + 1
  | .map entries => uptoBulkEntries entries + 1
  | .held _ => 1
def uptoBulkAll {H : Type} : List (DataW H) → Nat
  | [] => 0
  | d :: r => uptoBulk d + uptoBulkAll r
def uptoBulkEntries {H : Type} : List (Lit × DataW H) → Nat
  | [] => 0
  | x :: r => uptoBulkEntry x + uptoBulkEntries r
def uptoBulkEntry {H : Type} : Lit × DataW H → Nat
  | (.string bytes, d) => bytes.length + uptoBulk d + 1
  | (_, d) => uptoBulk d + 1
 end
def uptoSmall : (H : Type) → List (DataW H) → Bool := fun _ ds => decide (uptoBulkAll ds ≤ 1048576)
def OpenSpec.upto (s : _root_.Go.ChangeSpec) : _root_.Go.OpenSpec := { _root_.Go.OpenSpec.ofChange s with cond := some uptoSmall }

/-- 'groupcontrollaw10.PidsRefuses', WHERE WHAT IT READS IS OF BULK AT MOST 1048576: true; the input reads as it did. -/
def pidsRefusesUptoRow : OpenClaim := { program := "ytdckdjkjjmadeaagreat", sum := "a00d8a1efc060b0f4612db0c186b0782774b9f78fbd5e8029fd290ade06d7c83", func := "groupcontrol/groupcontrollaw10.PidsRefuses", spec := "pidsRefuses", unfollowed := true, recurses := true, apart := false, narrowed := true }
def PidsRefusesUptoSaid : Prop := pidsRefusesUptoRow.holds Tryz.pinned (OpenSpec.upto pidsRefusesSpec)

/-- 'groupcontrollaw10.PidsSums', WHERE WHAT IT READS IS OF BULK AT MOST 1048576: true; the input reads as it did. -/
def pidsSumsUptoRow : OpenClaim := { program := "ytdckdjkjjmadeaagreat", sum := "a00d8a1efc060b0f4612db0c186b0782774b9f78fbd5e8029fd290ade06d7c83", func := "groupcontrol/groupcontrollaw10.PidsSums", spec := "pidsSums", unfollowed := true, recurses := true, apart := false, narrowed := true }
def PidsSumsUptoSaid : Prop := pidsSumsUptoRow.holds Tryz.pinned (OpenSpec.upto pidsSumsSpec)

/-- 'groupcontrollaw10.PidsPeaks', WHERE WHAT IT READS IS OF BULK AT MOST 1048576: true; the input reads as it did. -/
def pidsPeaksUptoRow : OpenClaim := { program := "ytdckdjkjjmadeaagreat", sum := "a00d8a1efc060b0f4612db0c186b0782774b9f78fbd5e8029fd290ade06d7c83", func := "groupcontrol/groupcontrollaw10.PidsPeaks", spec := "pidsPeaks", unfollowed := true, recurses := true, apart := false, narrowed := true }
def PidsPeaksUptoSaid : Prop := pidsPeaksUptoRow.holds Tryz.pinned (OpenSpec.upto pidsPeaksSpec)

/-- 'groupcontrollaw10.PidsCounts', WHERE WHAT IT READS IS OF BULK AT MOST 1048576: true; the input reads as it did. -/
def pidsCountsUptoRow : OpenClaim := { program := "ytdckdjkjjmadeaagreat", sum := "a00d8a1efc060b0f4612db0c186b0782774b9f78fbd5e8029fd290ade06d7c83", func := "groupcontrol/groupcontrollaw10.PidsCounts", spec := "pidsCounts", unfollowed := true, recurses := true, apart := false, narrowed := true }
def PidsCountsUptoSaid : Prop := pidsCountsUptoRow.holds Tryz.pinned (OpenSpec.upto pidsCountsSpec)

/-- 'groupcontrollaw6.MemberLeaders', WHERE WHAT IT READS IS OF BULK AT MOST 1048576: true; the input reads as it did. -/
def memberLeadersUptoRow : OpenClaim := { program := "ytdckdjkjjmadeaagreat", sum := "a00d8a1efc060b0f4612db0c186b0782774b9f78fbd5e8029fd290ade06d7c83", func := "groupcontrol/groupcontrollaw6.MemberLeaders", spec := "memberLeaders", unfollowed := true, recurses := true, apart := false, narrowed := true }
def MemberLeadersUptoSaid : Prop := memberLeadersUptoRow.holds Tryz.pinned (OpenSpec.upto memberLeadersSpec)

/-- 'groupcontrollaw6.MemberThreads', WHERE WHAT IT READS IS OF BULK AT MOST 1048576: true; the input reads as it did. -/
def memberThreadsUptoRow : OpenClaim := { program := "ytdckdjkjjmadeaagreat", sum := "a00d8a1efc060b0f4612db0c186b0782774b9f78fbd5e8029fd290ade06d7c83", func := "groupcontrol/groupcontrollaw6.MemberThreads", spec := "memberThreads", unfollowed := true, recurses := true, apart := false, narrowed := true }
def MemberThreadsUptoSaid : Prop := memberThreadsUptoRow.holds Tryz.pinned (OpenSpec.upto memberThreadsSpec)

/-- 'groupcontrollaw6.MemberReads', WHERE WHAT IT READS IS OF BULK AT MOST 1048576: true; the input reads as it did. -/
def memberReadsUptoRow : OpenClaim := { program := "ytdckdjkjjmadeaagreat", sum := "a00d8a1efc060b0f4612db0c186b0782774b9f78fbd5e8029fd290ade06d7c83", func := "groupcontrol/groupcontrollaw6.MemberReads", spec := "memberReads", unfollowed := true, recurses := true, apart := false, narrowed := true }
def MemberReadsUptoSaid : Prop := memberReadsUptoRow.holds Tryz.pinned (OpenSpec.upto memberReadsSpec)

/-- 'groupcontrollaw6.MemberChanges', WHERE WHAT IT READS IS OF BULK AT MOST 1048576: true; the input reads as it did. -/
def memberChangesUptoRow : OpenClaim := { program := "ytdckdjkjjmadeaagreat", sum := "a00d8a1efc060b0f4612db0c186b0782774b9f78fbd5e8029fd290ade06d7c83", func := "groupcontrol/groupcontrollaw6.MemberChanges", spec := "memberChanges", unfollowed := true, recurses := true, apart := false, narrowed := true }
def MemberChangesUptoSaid : Prop := memberChangesUptoRow.holds Tryz.pinned (OpenSpec.upto memberChangesSpec)

/-- 'groupcontrollaw6.MemberSums', WHERE WHAT IT READS IS OF BULK AT MOST 1048576: true; the input reads as it did. -/
def memberSumsUptoRow : OpenClaim := { program := "ytdckdjkjjmadeaagreat", sum := "a00d8a1efc060b0f4612db0c186b0782774b9f78fbd5e8029fd290ade06d7c83", func := "groupcontrol/groupcontrollaw6.MemberSums", spec := "memberSums", unfollowed := true, recurses := true, apart := false, narrowed := true }
def MemberSumsUptoSaid : Prop := memberSumsUptoRow.holds Tryz.pinned (OpenSpec.upto memberSumsSpec)

/-- 'groupcontrollaw10.PidsForks', WHERE WHAT IT READS IS OF BULK AT MOST 1048576: true; the input reads as it did. -/
def pidsForksUptoRow : OpenClaim := { program := "ytdckdjkjjmadeaagreat", sum := "a00d8a1efc060b0f4612db0c186b0782774b9f78fbd5e8029fd290ade06d7c83", func := "groupcontrol/groupcontrollaw10.PidsForks", spec := "pidsForks", unfollowed := true, recurses := true, apart := false, narrowed := true }
def PidsForksUptoSaid : Prop := pidsForksUptoRow.holds Tryz.pinned (OpenSpec.upto pidsForksSpec)

/-- 'groupcontrollaw10.PidsLimits', WHERE WHAT IT READS IS OF BULK AT MOST 1048576: true; the input reads as it did. -/
def pidsLimitsUptoRow : OpenClaim := { program := "ytdckdjkjjmadeaagreat", sum := "a00d8a1efc060b0f4612db0c186b0782774b9f78fbd5e8029fd290ade06d7c83", func := "groupcontrol/groupcontrollaw10.PidsLimits", spec := "pidsLimits", unfollowed := true, recurses := true, apart := false, narrowed := true }
def PidsLimitsUptoSaid : Prop := pidsLimitsUptoRow.holds Tryz.pinned (OpenSpec.upto pidsLimitsSpec)

end Rows
end Go.Proofs.YtdckdjkjjmadeaaGreat
