/- Proved: for every input the law MemberReads returns true, and each argument reads behind the call as it read before. No condition. -/
import Derived.Test.YtonaidnipimjgaaGreatRows
import Derived.Test.YtonaidnipimjgaaGreatMemberReadsA1
import Derived.Test.YtonaidnipimjgaaGreatMemberReadsA3
import Derived.Test.YtonaidnipimjgaaGreatMemberReadsA5
set_option linter.unusedVariables false
set_option linter.unusedSimpArgs false
namespace Go.Dm
open Go.Proofs
theorem AfS : Reads Tryz.prog true (α := Aa) 28 4 Ab (fun x => (fun x => (okL (fun x => okI x.id ∧ okI x.parent ∧ okS x.name ∧ okI x.control ∧ okI x.kind ∧ okI x.owner ∧ True)) x.nodes ∧ okI x.next ∧ True) x.tree ∧ (okL (fun x => okI x.id ∧ okI x.process ∧ okI x.group ∧ okI x.user ∧ True)) x.tasks ∧ okI x.next ∧ True) := (Reads.map (en' := Ab) (good' := (fun x => (fun x => (okL (fun x => okI x.id ∧ okI x.parent ∧ okS x.name ∧ okI x.control ∧ okI x.kind ∧ okI x.owner ∧ True)) x.nodes ∧ okI x.next ∧ True) x.tree ∧ (okL (fun x => okI x.id ∧ okI x.process ∧ okI x.group ∧ okI x.user ∧ True)) x.tasks ∧ okI x.next ∧ True)) (Reads.struct Tryz.underlying28 (by kernel_rfl) (ReadsF.cons (en := Aq) (good := (fun x => (okL (fun x => okI x.id ∧ okI x.parent ∧ okS x.name ∧ okI x.control ∧ okI x.kind ∧ okI x.owner ∧ True)) x.nodes ∧ okI x.next ∧ True)) (Reads.map (en' := Aq) (good' := (fun x => (okL (fun x => okI x.id ∧ okI x.parent ∧ okS x.name ∧ okI x.control ∧ okI x.kind ∧ okI x.owner ∧ True)) x.nodes ∧ okI x.next ∧ True)) (Reads.struct Tryz.underlying25 (by kernel_rfl) (ReadsF.cons (en := (encSl 6 An (default : Af))) (good := (okL (fun x => okI x.id ∧ okI x.parent ∧ okS x.name ∧ okI x.control ∧ okI x.kind ∧ okI x.owner ∧ True))) (Reads.slice (en := An) (good := (fun x => okI x.id ∧ okI x.parent ∧ okS x.name ∧ okI x.control ∧ okI x.kind ∧ okI x.owner ∧ True)) Tryz.underlying23 (by kernel_rfl) (Reads.map (en' := An) (good' := (fun x => okI x.id ∧ okI x.parent ∧ okS x.name ∧ okI x.control ∧ okI x.kind ∧ okI x.owner ∧ True)) (Reads.struct Tryz.underlying57 (by kernel_rfl) (ReadsF.cons (en := Bd) (good := okI) (Reads.int (fl := false) Tryz.underlying3 (by kernel_rfl)) rfl (ReadsF.cons (en := Bd) (good := okI) (Reads.int (fl := false) Tryz.underlying3 (by kernel_rfl)) rfl (ReadsF.cons (en := Vn) (good := okS) (Reads.str (fl := false) Tryz.underlying9 (by kernel_rfl)) rfl (ReadsF.cons (en := Bd) (good := okI) (Reads.int (fl := false) Tryz.underlying3 (by kernel_rfl)) rfl (ReadsF.cons (en := Bd) (good := okI) (Reads.int (fl := false) Tryz.underlying3 (by kernel_rfl)) rfl (ReadsF.cons (en := Bd) (good := okI) (Reads.int (fl := false) Tryz.underlying3 (by kernel_rfl)) rfl ReadsF.nil))))))) (fun p => ({ id := p.1,parent := p.2.1,name := p.2.2.1,control := p.2.2.2.1,kind := p.2.2.2.2.1,owner := p.2.2.2.2.2.1 } : Af)) (fun _ => rfl) (fun _ => rfl) (fun _ h => h)) (by decide) (default : Af)) rfl (ReadsF.cons (en := Bd) (good := okI) (Reads.int (fl := true) Tryz.underlying3 (by kernel_rfl)) rfl ReadsF.nil))) (fun p => ({ nodes := p.1,next := p.2.1 } : Ae)) (fun _ => rfl) (fun _ => rfl) (fun _ h => h)) rfl (ReadsF.cons (en := (encSl 4 Am (default : Aj))) (good := (okL (fun x => okI x.id ∧ okI x.process ∧ okI x.group ∧ okI x.user ∧ True))) (Reads.slice (en := Am) (good := (fun x => okI x.id ∧ okI x.process ∧ okI x.group ∧ okI x.user ∧ True)) Tryz.underlying26 (by kernel_rfl) (Reads.map (en' := Am) (good' := (fun x => okI x.id ∧ okI x.process ∧ okI x.group ∧ okI x.user ∧ True)) (Reads.struct Tryz.underlying40 (by kernel_rfl) (ReadsF.cons (en := Bd) (good := okI) (Reads.int (fl := false) Tryz.underlying3 (by kernel_rfl)) rfl (ReadsF.cons (en := Bd) (good := okI) (Reads.int (fl := false) Tryz.underlying3 (by kernel_rfl)) rfl (ReadsF.cons (en := Bd) (good := okI) (Reads.int (fl := false) Tryz.underlying3 (by kernel_rfl)) rfl (ReadsF.cons (en := Bd) (good := okI) (Reads.int (fl := false) Tryz.underlying3 (by kernel_rfl)) rfl ReadsF.nil))))) (fun p => ({ id := p.1,process := p.2.1,group := p.2.2.1,user := p.2.2.2.1 } : Aj)) (fun _ => rfl) (fun _ => rfl) (fun _ h => h)) (by decide) (default : Aj)) rfl (ReadsF.cons (en := Bd) (good := okI) (Reads.int (fl := true) Tryz.underlying3 (by kernel_rfl)) rfl ReadsF.nil)))) (fun p => ({ tree := p.1,tasks := p.2.1,next := p.2.2.1 } : Aa)) (fun _ => rfl) (fun _ => rfl) (fun _ h => h))
end Go.Dm
namespace Go.Proofs.YtonaidnipimjgaaGreat.memberReads
open Go.ChangeShapes Go.WideShapes Go.ChangeAt Go.RowKit Go.Dm
set_option linter.unusedVariables false

theorem own : ownKnob Tryz.prog.godebug = none := by kernel_rfl
theorem kids : Kids Tryz.prog (· < Tryz.prog.types.size) := kids_rows (by kernel_rfl) (by kernel_rfl)
theorem full : ∀ t e,t < Tryz.prog.types.size → Tryz.prog.underlying t = some (.slice e) → 0 < Tryz.prog.cellsOf e := slices_full_of Tryz.prog (by kernel_rfl)

set_option maxRecDepth 100000 in
theorem lifted (os : Os) (started : os.Started) (H : Type) (enc : TypeId × Value → H) :
    ReturnsInHanded {} Tryz.checked os 3 .any (Rows.memberReadsSpec.pre6 enc Tryz.prog Tryz.f3 Rows.memberReadsRow.domain false) (Rows.memberReadsSpec.post enc Tryz.prog Tryz.f3 false true false false) := by
  refine returnsInHanded_of_change (C := Tryz.checked) own started (by kernel_rfl) Tryz.func3
    (ChangeSpec.witness6 (enc := enc) (C := Tryz.checked) false ⟨#[],#[.slice none 0 0,.agg #[.slice none 0 0,.int .i64 0,.slice none 0 0,.int .i64 0],.int .i64 0],[]⟩ 8 (by kernel_rfl) (by kernel_rfl) (by kernel_rfl) (by kernel_rfl)) ?_
  intro W base args ds gs before hval0 hW hcnd _
  have hval : ∀ (j : Nat) t v,Tryz.f3.params[j]? = some t → args[j]? = some v → Value.okWide Tryz.prog W .any base t v := hval0
  have hW' := hW
  obtain ⟨p,q,hA0,hV,rfl,hfz,hnd⟩ := hW
  have hA : DataW.TrodAll enc Tryz.prog W 0 (fun _ => true) true Tryz.f3.params.toList args.toList ds p := hA0
  have hlt := hA.lt
  rw [Tryz.params3] at hA hval
  obtain ⟨v0,vs0,d0,ds0,p0,q0,hargs,rfl,rfl,h0,e0⟩ := trodAll_cons hA
  obtain ⟨v1,vs1,d1,ds1,p1,q1,rfl,rfl,rfl,h1,e1⟩ := trodAll_cons e0
  obtain ⟨v2,vs2,d2,ds2,p2,q2,rfl,rfl,rfl,h2,e2⟩ := trodAll_cons e1
  obtain ⟨rfl,rfl,rfl⟩ := trodAll_nil e2
  obtain rfl : args = #[v0,v1,v2] := by cases args; simp_all
  clear hA0 hval0
  obtain ⟨n0,q0,r0⟩ := arg_ints Tryz.underlying22 Tryz.underlying3 (by kernel_rfl) (hval 0 22 v0 rfl rfl) h0
  obtain ⟨n1,q1,r1⟩ := AhY AfS Tryz.underlying28 (hval 1 28 v1 rfl rfl) h1
  obtain ⟨n2,lo2,hi2,q2⟩ := arg_int Tryz.underlying3 (hval 2 3 v2 rfl rfl) h2
  have hspec : Go.Dm.Spec Tryz.prog 3 [.p (Oz 1 Bd 0 n0),.p (.agg (Ab n1)),.p (vk .i64 n2)] [] (.p (vb true)) [] [] := Abd n0 n1 n2 true (Aej n0 n1 n2 q0 q1 lo2 hi2)
  refine (Go.Dm.Spec.law hspec (vs := #[v0,v1,v2]) (W := W) rfl ?_).mono fun e W' ⟨he,hk⟩ => ?_
  · intro β objs i x hx
    match i,hx with
    | 0,hx => simp at hx; subst hx; exact r0 β objs _ (fun x hx => hlt x (by simp [hx]))
    | 1,hx => simp at hx; subst hx; exact r1 β objs _ (fun x hx => hlt x (by simp [hx]))
    | 2,hx => simp at hx; subst hx; exact q2 β objs _
    | n + 3,hx => simp at hx
  · subst he
    exact ⟨_,rfl,law_post kids full (by rw [Tryz.params3]; decide) rfl (tb := 4) (by kernel_rfl) Tryz.underlying4 hW' rfl hk⟩

theorem over : Rows.memberReadsRow.holds Tryz.pinned (OpenSpec.ofChange Rows.memberReadsSpec) :=
  OpenClaim.holds_of_wide 3 Tryz.f3 rfl rfl rfl rfl rfl rfl rfl ⟨rfl,rfl,rfl,rfl,rfl⟩ rfl rfl rfl rfl rfl (by kernel_rfl) Tryz.func3 (by kernel_rfl)
    (of_decide_eq_true (by kernel_rfl)) (by unfold Func.isWrapper; first | (rw [if_pos (by decide +kernel)]; kernel_rfl) | (rw [if_neg (by decide +kernel)]; exact ⟨rfl,rfl⟩))
    (fun os started H enc _ => lifted os started H enc)

theorem proved : Rows.MemberReadsSaid :=
  over
#print axioms proved
end Go.Proofs.YtonaidnipimjgaaGreat.memberReads

