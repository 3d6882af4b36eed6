/- Proved: for every input the law ProtectExact returns true, and each argument reads behind the call as it read before. No condition. -/
import Derived.Test.YtonaidnipimjgaaRows
import Derived.Test.YtonaidnipimjgaaProtectExactA1
import Derived.Test.YtonaidnipimjgaaProtectExactA2
import Derived.Test.YtonaidnipimjgaaProtectExactA4
set_option linter.unusedVariables false
set_option linter.unusedSimpArgs false
namespace Go.Dm
open Go.Proofs
theorem AbR : Reads Try.prog true (α := Aa) 25 2 Ab (fun x => (okL (fun x => okI x.id ∧ okI x.parent ∧ okS x.name ∧ okI x.control ∧ okI x.kind ∧ okI x.owner ∧ True)) x.nodes ∧ okI x.next ∧ True) := (Reads.map (en' := Ab) (good' := (fun x => (okL (fun x => okI x.id ∧ okI x.parent ∧ okS x.name ∧ okI x.control ∧ okI x.kind ∧ okI x.owner ∧ True)) x.nodes ∧ okI x.next ∧ True)) (Reads.struct Try.underlying25 (by kernel_rfl) (ReadsF.cons (en := (encSl 6 Ax (default : Ac))) (good := (okL (fun x => okI x.id ∧ okI x.parent ∧ okS x.name ∧ okI x.control ∧ okI x.kind ∧ okI x.owner ∧ True))) (Reads.slice (en := Ax) (good := (fun x => okI x.id ∧ okI x.parent ∧ okS x.name ∧ okI x.control ∧ okI x.kind ∧ okI x.owner ∧ True)) Try.underlying23 (by kernel_rfl) (Reads.map (en' := Ax) (good' := (fun x => okI x.id ∧ okI x.parent ∧ okS x.name ∧ okI x.control ∧ okI x.kind ∧ okI x.owner ∧ True)) (Reads.struct Try.underlying51 (by kernel_rfl) (ReadsF.cons (en := Bm) (good := okI) (Reads.int (fl := false) Try.underlying3 (by kernel_rfl)) rfl (ReadsF.cons (en := Bm) (good := okI) (Reads.int (fl := false) Try.underlying3 (by kernel_rfl)) rfl (ReadsF.cons (en := encS) (good := okS) (Reads.str (fl := false) Try.underlying9 (by kernel_rfl)) rfl (ReadsF.cons (en := Bm) (good := okI) (Reads.int (fl := false) Try.underlying3 (by kernel_rfl)) rfl (ReadsF.cons (en := Bm) (good := okI) (Reads.int (fl := false) Try.underlying3 (by kernel_rfl)) rfl (ReadsF.cons (en := Bm) (good := okI) (Reads.int (fl := false) Try.underlying3 (by kernel_rfl)) rfl ReadsF.nil))))))) (fun p => ({ id := p.1,parent := p.2.1,name := p.2.2.1,control := p.2.2.2.1,kind := p.2.2.2.2.1,owner := p.2.2.2.2.2.1 } : Ac)) (fun _ => rfl) (fun _ => rfl) (fun _ h => h)) (by decide) (default : Ac)) rfl (ReadsF.cons (en := Bm) (good := okI) (Reads.int (fl := true) Try.underlying3 (by kernel_rfl)) rfl ReadsF.nil))) (fun p => ({ nodes := p.1,next := p.2.1 } : Aa)) (fun _ => rfl) (fun _ => rfl) (fun _ h => h))
theorem AbV : Reads Try.prog true (α := Ag) 28 1 Xz (fun x => (okL (fun x => okI x.group ∧ okI x.own ∧ True)) x.charges ∧ True) := (Reads.map (en' := Xz) (good' := (fun x => (okL (fun x => okI x.group ∧ okI x.own ∧ True)) x.charges ∧ True)) (Reads.struct Try.underlying28 (by kernel_rfl) (ReadsF.cons (en := (encSl 2 Bg (default : Ah))) (good := (okL (fun x => okI x.group ∧ okI x.own ∧ True))) (Reads.slice (en := Bg) (good := (fun x => okI x.group ∧ okI x.own ∧ True)) Try.underlying26 (by kernel_rfl) (Reads.map (en' := Bg) (good' := (fun x => okI x.group ∧ okI x.own ∧ True)) (Reads.struct Try.underlying67 (by kernel_rfl) (ReadsF.cons (en := Bm) (good := okI) (Reads.int (fl := false) Try.underlying3 (by kernel_rfl)) rfl (ReadsF.cons (en := Bm) (good := okI) (Reads.int (fl := false) Try.underlying3 (by kernel_rfl)) rfl ReadsF.nil))) (fun p => ({ group := p.1,own := p.2.1 } : Ah)) (fun _ => rfl) (fun _ => rfl) (fun _ h => h)) (by decide) (default : Ah)) rfl ReadsF.nil)) (fun p => ({ charges := p.1 } : Ag)) (fun _ => rfl) (fun _ => rfl) (fun _ h => h))
theorem Acj : Reads Try.prog true (α := List Protection) 29 1 (encSl 3 As (default : Protection)) (okL (fun x => okI x.group ∧ okI x.min ∧ okI x.low ∧ True)) := (Reads.slice (en := As) (good := (fun x => okI x.group ∧ okI x.min ∧ okI x.low ∧ True)) Try.underlying29 (by kernel_rfl) (Reads.map (en' := As) (good' := (fun x => okI x.group ∧ okI x.min ∧ okI x.low ∧ True)) (Reads.struct Try.underlying39 (by kernel_rfl) (ReadsF.cons (en := Bm) (good := okI) (Reads.int (fl := false) Try.underlying3 (by kernel_rfl)) rfl (ReadsF.cons (en := Bm) (good := okI) (Reads.int (fl := false) Try.underlying3 (by kernel_rfl)) rfl (ReadsF.cons (en := Bm) (good := okI) (Reads.int (fl := false) Try.underlying3 (by kernel_rfl)) rfl ReadsF.nil)))) (fun p => ({ group := p.1,min := p.2.1,low := p.2.2.1 } : Protection)) (fun _ => rfl) (fun _ => rfl) (fun _ h => h)) (by decide) (default : Protection))
end Go.Dm
namespace Go.Proofs.Ytonaidnipimjgaa.protectExact
open Go.ChangeShapes Go.WideShapes Go.ChangeAt Go.RowKit Go.Dm
set_option linter.unusedVariables false

theorem own : ownKnob Try.prog.godebug = none := by kernel_rfl
theorem kids : Kids Try.prog (· < Try.prog.types.size) := kids_rows (by kernel_rfl) (by kernel_rfl)
theorem full : ∀ t e,t < Try.prog.types.size → Try.prog.underlying t = some (.slice e) → 0 < Try.prog.cellsOf e := slices_full_of Try.prog (by kernel_rfl)

set_option maxRecDepth 100000 in
theorem lifted (os : Os) (started : os.Started) (H : Type) (enc : TypeId × Value → H) :
    ReturnsInHanded {} Try.checked os 3 .any (Rows.protectExactSpec.pre6 enc Try.prog Try.f3 Rows.protectExactRow.domain false) (Rows.protectExactSpec.post enc Try.prog Try.f3 false true false false) := by
  refine returnsInHanded_of_change (C := Try.checked) own started (by kernel_rfl) Try.func3
    (ChangeSpec.witness6 (enc := enc) (C := Try.checked) false ⟨#[],#[.slice none 0 0,.agg #[.slice none 0 0,.int .i64 0],.agg #[.slice none 0 0],.slice none 0 0,.int .i64 0,.int .i64 0],[]⟩ 8 (by kernel_rfl) (by kernel_rfl) (by kernel_rfl) (by kernel_rfl)) ?_
  intro W base args ds gs before hval0 hW hcnd _
  have hval : ∀ (j : Nat) t v,Try.f3.params[j]? = some t → args[j]? = some v → Value.okWide Try.prog W .any base t v := hval0
  have hW' := hW
  obtain ⟨p,q,hA0,hV,rfl,hfz,hnd⟩ := hW
  have hA : DataW.TrodAll enc Try.prog W 0 (fun _ => true) true Try.f3.params.toList args.toList ds p := hA0
  have hlt := hA.lt
  rw [Try.params3] at hA hval
  obtain ⟨v0,vs0,d0,ds0,p0,q0,hargs,rfl,rfl,h0,e0⟩ := trodAll_cons hA
  obtain ⟨v1,vs1,d1,ds1,p1,q1,rfl,rfl,rfl,h1,e1⟩ := trodAll_cons e0
  obtain ⟨v2,vs2,d2,ds2,p2,q2,rfl,rfl,rfl,h2,e2⟩ := trodAll_cons e1
  obtain ⟨v3,vs3,d3,ds3,p3,q3,rfl,rfl,rfl,h3,e3⟩ := trodAll_cons e2
  obtain ⟨v4,vs4,d4,ds4,p4,q4,rfl,rfl,rfl,h4,e4⟩ := trodAll_cons e3
  obtain ⟨v5,vs5,d5,ds5,p5,q5,rfl,rfl,rfl,h5,e5⟩ := trodAll_cons e4
  obtain ⟨rfl,rfl,rfl⟩ := trodAll_nil e5
  obtain rfl : args = #[v0,v1,v2,v3,v4,v5] := by cases args; simp_all
  clear hA0 hval0
  obtain ⟨n0,q0,r0⟩ := arg_ints Try.underlying22 Try.underlying3 (by kernel_rfl) (hval 0 22 v0 rfl rfl) h0
  obtain ⟨n1,q1,r1⟩ := AbY AbR Try.underlying25 (hval 1 25 v1 rfl rfl) h1
  obtain ⟨n2,q2,r2⟩ := AbY AbV Try.underlying28 (hval 2 28 v2 rfl rfl) h2
  obtain ⟨n3,q3,r3⟩ := arg_one (e1 := (La 3 As (default : Go.Dm.Protection))) Acj (fun _ h => by rw [Try.underlying29] at h; cases h) (fun _ _ h => by rw [Try.underlying29] at h; cases h) (hval 3 29 v3 rfl rfl) h3
  obtain ⟨n4,lo4,hi4,q4⟩ := arg_int Try.underlying3 (hval 4 3 v4 rfl rfl) h4
  obtain ⟨n5,lo5,hi5,q5⟩ := arg_int Try.underlying3 (hval 5 3 v5 rfl rfl) h5
  have hspec : Go.Dm.Spec Try.prog 3 [.p (La 1 Bm 0 n0),.p (.agg (Ab n1)),.p (.agg (Xz n2)),.p ((La 3 As (default : Go.Dm.Protection)) n3),.p (vk .i64 n4),.p (vk .i64 n5)] [] (.p (vb true)) [] [] := Xd n0 n1 n2 n3 n4 n5 true (AaV n0 n1 n2 n3 n4 n5 q0 q1 q2 q3 lo4 hi4 lo5 hi5)
  refine (Go.Dm.Spec.law hspec (vs := #[v0,v1,v2,v3,v4,v5]) (W := W) rfl ?_).mono fun e W' ⟨he,hk⟩ => ?_
  · intro β objs i x hx
    match i,hx with
    | 0,hx => simp at hx; subst hx; exact r0 β objs _ (fun x hx => hlt x (by simp [hx]))
    | 1,hx => simp at hx; subst hx; exact r1 β objs _ (fun x hx => hlt x (by simp [hx]))
    | 2,hx => simp at hx; subst hx; exact r2 β objs _ (fun x hx => hlt x (by simp [hx]))
    | 3,hx => simp at hx; subst hx; exact r3 β objs _ (fun x hx => hlt x (by simp [hx]))
    | 4,hx => simp at hx; subst hx; exact q4 β objs _
    | 5,hx => simp at hx; subst hx; exact q5 β objs _
    | n + 6,hx => simp at hx
  · subst he
    exact ⟨_,rfl,law_post kids full (by rw [Try.params3]; decide) rfl (tb := 4) (by kernel_rfl) Try.underlying4 hW' rfl hk⟩

theorem over : Rows.protectExactRow.holds Try.pinned (OpenSpec.ofChange Rows.protectExactSpec) :=
  OpenClaim.holds_of_wide 3 Try.f3 rfl rfl rfl rfl rfl rfl rfl ⟨rfl,rfl,rfl,rfl,rfl⟩ rfl rfl rfl rfl rfl (by kernel_rfl) Try.func3 (by kernel_rfl)
    (of_decide_eq_true (by kernel_rfl)) (by unfold Func.isWrapper; first | (rw [if_pos (by decide +kernel)]; kernel_rfl) | (rw [if_neg (by decide +kernel)]; exact ⟨rfl,rfl⟩))
    (fun os started H enc _ => lifted os started H enc)

theorem proved : Rows.ProtectExactSaid :=
  over
#print axioms proved
end Go.Proofs.Ytonaidnipimjgaa.protectExact

