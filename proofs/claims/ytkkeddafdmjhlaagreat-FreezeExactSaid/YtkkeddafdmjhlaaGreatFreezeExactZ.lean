/- Proved: for every input the law FreezeExact returns true, and each argument reads behind the call as it read before. No condition. -/
import Derived.Test.YtkkeddafdmjhlaaGreatRows
import Derived.Test.YtkkeddafdmjhlaaGreatFreezeExactA1
import Derived.Test.YtkkeddafdmjhlaaGreatFreezeExactA3
import Derived.Test.YtkkeddafdmjhlaaGreatFreezeExactA6
set_option linter.unusedVariables false
set_option linter.unusedSimpArgs false
namespace Go.Dm
open Go.Proofs
theorem AhB : Reads Tryz.prog true (α := Aa) 51 4 Ab (fun x => (fun x => (okL (fun x => okI x.id ∧ okI x.parent ∧ okS x.name ∧ okI x.control ∧ okI x.kind ∧ okI x.owner ∧ True)) x.nodes ∧ okI x.next ∧ True) x.tree ∧ (okL (fun x => okI x.id ∧ okI x.process ∧ okI x.group ∧ okI x.user ∧ True)) x.tasks ∧ okI x.next ∧ True) := (Reads.map (en' := Ab) (good' := (fun x => (fun x => (okL (fun x => okI x.id ∧ okI x.parent ∧ okS x.name ∧ okI x.control ∧ okI x.kind ∧ okI x.owner ∧ True)) x.nodes ∧ okI x.next ∧ True) x.tree ∧ (okL (fun x => okI x.id ∧ okI x.process ∧ okI x.group ∧ okI x.user ∧ True)) x.tasks ∧ okI x.next ∧ True)) (Reads.struct Tryz.underlying51 (by kernel_rfl) (ReadsF.cons (en := As) (good := (fun x => (okL (fun x => okI x.id ∧ okI x.parent ∧ okS x.name ∧ okI x.control ∧ okI x.kind ∧ okI x.owner ∧ True)) x.nodes ∧ okI x.next ∧ True)) (Reads.map (en' := As) (good' := (fun x => (okL (fun x => okI x.id ∧ okI x.parent ∧ okS x.name ∧ okI x.control ∧ okI x.kind ∧ okI x.owner ∧ True)) x.nodes ∧ okI x.next ∧ True)) (Reads.struct Tryz.underlying29 (by kernel_rfl) (ReadsF.cons (en := (AeQ 6 Ar (default : Ao))) (good := (okL (fun x => okI x.id ∧ okI x.parent ∧ okS x.name ∧ okI x.control ∧ okI x.kind ∧ okI x.owner ∧ True))) (Reads.slice (en := Ar) (good := (fun x => okI x.id ∧ okI x.parent ∧ okS x.name ∧ okI x.control ∧ okI x.kind ∧ okI x.owner ∧ True)) Tryz.underlying27 (by kernel_rfl) (Reads.map (en' := Ar) (good' := (fun x => okI x.id ∧ okI x.parent ∧ okS x.name ∧ okI x.control ∧ okI x.kind ∧ okI x.owner ∧ True)) (Reads.struct Tryz.underlying37 (by kernel_rfl) (ReadsF.cons (en := Bi) (good := okI) (Reads.int (fl := false) Tryz.underlying3 (by kernel_rfl)) rfl (ReadsF.cons (en := Bi) (good := okI) (Reads.int (fl := false) Tryz.underlying3 (by kernel_rfl)) rfl (ReadsF.cons (en := encS) (good := okS) (Reads.str (fl := false) Tryz.underlying9 (by kernel_rfl)) rfl (ReadsF.cons (en := Bi) (good := okI) (Reads.int (fl := false) Tryz.underlying3 (by kernel_rfl)) rfl (ReadsF.cons (en := Bi) (good := okI) (Reads.int (fl := false) Tryz.underlying3 (by kernel_rfl)) rfl (ReadsF.cons (en := Bi) (good := okI) (Reads.int (fl := false) Tryz.underlying3 (by kernel_rfl)) rfl ReadsF.nil))))))) (fun p => ({ id := p.1,parent := p.2.1,name := p.2.2.1,control := p.2.2.2.1,kind := p.2.2.2.2.1,owner := p.2.2.2.2.2.1 } : Ao)) (fun _ => rfl) (fun _ => rfl) (fun _ h => h)) (by decide) (default : Ao)) rfl (ReadsF.cons (en := Bi) (good := okI) (Reads.int (fl := true) Tryz.underlying3 (by kernel_rfl)) rfl ReadsF.nil))) (fun p => ({ nodes := p.1,next := p.2.1 } : Ag)) (fun _ => rfl) (fun _ => rfl) (fun _ h => h)) rfl (ReadsF.cons (en := (AeQ 4 Az (default : Aw))) (good := (okL (fun x => okI x.id ∧ okI x.process ∧ okI x.group ∧ okI x.user ∧ True))) (Reads.slice (en := Az) (good := (fun x => okI x.id ∧ okI x.process ∧ okI x.group ∧ okI x.user ∧ True)) Tryz.underlying49 (by kernel_rfl) (Reads.map (en' := Az) (good' := (fun x => okI x.id ∧ okI x.process ∧ okI x.group ∧ okI x.user ∧ True)) (Reads.struct Tryz.underlying118 (by kernel_rfl) (ReadsF.cons (en := Bi) (good := okI) (Reads.int (fl := false) Tryz.underlying3 (by kernel_rfl)) rfl (ReadsF.cons (en := Bi) (good := okI) (Reads.int (fl := false) Tryz.underlying3 (by kernel_rfl)) rfl (ReadsF.cons (en := Bi) (good := okI) (Reads.int (fl := false) Tryz.underlying3 (by kernel_rfl)) rfl (ReadsF.cons (en := Bi) (good := okI) (Reads.int (fl := false) Tryz.underlying3 (by kernel_rfl)) rfl ReadsF.nil))))) (fun p => ({ id := p.1,process := p.2.1,group := p.2.2.1,user := p.2.2.2.1 } : Aw)) (fun _ => rfl) (fun _ => rfl) (fun _ h => h)) (by decide) (default : Aw)) rfl (ReadsF.cons (en := Bi) (good := okI) (Reads.int (fl := true) Tryz.underlying3 (by kernel_rfl)) rfl ReadsF.nil)))) (fun p => ({ tree := p.1,tasks := p.2.1,next := p.2.2.1 } : Aa)) (fun _ => rfl) (fun _ => rfl) (fun _ h => h))
theorem Ahg : Reads Tryz.prog true (α := Ac) 54 2 Al (fun x => (okL (fun x => okI x.group ∧ okB x.want ∧ okB x.frozen ∧ okI x.changes ∧ True)) x.frosts ∧ (okL okI) x.stopped ∧ True) := (Reads.map (en' := Al) (good' := (fun x => (okL (fun x => okI x.group ∧ okB x.want ∧ okB x.frozen ∧ okI x.changes ∧ True)) x.frosts ∧ (okL okI) x.stopped ∧ True)) (Reads.struct Tryz.underlying54 (by kernel_rfl) (ReadsF.cons (en := (AeQ 4 Bd (default : Ae))) (good := (okL (fun x => okI x.group ∧ okB x.want ∧ okB x.frozen ∧ okI x.changes ∧ True))) (Reads.slice (en := Bd) (good := (fun x => okI x.group ∧ okB x.want ∧ okB x.frozen ∧ okI x.changes ∧ True)) Tryz.underlying52 (by kernel_rfl) (Reads.map (en' := Bd) (good' := (fun x => okI x.group ∧ okB x.want ∧ okB x.frozen ∧ okI x.changes ∧ True)) (Reads.struct Tryz.underlying59 (by kernel_rfl) (ReadsF.cons (en := Bi) (good := okI) (Reads.int (fl := false) Tryz.underlying3 (by kernel_rfl)) rfl (ReadsF.cons (en := AeW) (good := okB) (Reads.bool (fl := false) Tryz.underlying4 (by kernel_rfl)) rfl (ReadsF.cons (en := AeW) (good := okB) (Reads.bool (fl := false) Tryz.underlying4 (by kernel_rfl)) rfl (ReadsF.cons (en := Bi) (good := okI) (Reads.int (fl := false) Tryz.underlying3 (by kernel_rfl)) rfl ReadsF.nil))))) (fun p => ({ group := p.1,want := p.2.1,frozen := p.2.2.1,changes := p.2.2.2.1 } : Ae)) (fun _ => rfl) (fun _ => rfl) (fun _ h => h)) (by decide) (default : Ae)) rfl (ReadsF.cons (en := (AeQ 1 Bi 0)) (good := (okL okI)) (Reads.slice (en := Bi) (good := okI) Tryz.underlying22 (by kernel_rfl) (Reads.int (fl := false) Tryz.underlying3 (by kernel_rfl)) (by decide) 0) rfl ReadsF.nil))) (fun p => ({ frosts := p.1,stopped := p.2.1 } : Ac)) (fun _ => rfl) (fun _ => rfl) (fun _ h => h))
theorem Ahq : Reads Tryz.prog true (α := Bool) 4 1 AeW okB := (Reads.bool (fl := true) Tryz.underlying4 (by kernel_rfl))
theorem Ahf : Reads Tryz.prog true (α := List Int) 22 1 (AeQ 1 Bi 0) (okL okI) := (Reads.slice (en := Bi) (good := okI) Tryz.underlying22 (by kernel_rfl) (Reads.int (fl := false) Tryz.underlying3 (by kernel_rfl)) (by decide) 0)
end Go.Dm
namespace Go.Proofs.YtkkeddafdmjhlaaGreat.freezeExact
open Go.ChangeShapes Go.WideShapes Go.ChangeAt Go.RowKit Go.Dm
set_option linter.unusedVariables false

theorem own : ownKnob Tryz.prog.godebug = none := by kernel_rfl
theorem kids : Kids Tryz.prog (· < Tryz.prog.types.size) := kids_rows (by kernel_rfl) (by kernel_rfl)
theorem full : ∀ t e,t < Tryz.prog.types.size → Tryz.prog.underlying t = some (.slice e) → 0 < Tryz.prog.cellsOf e := slices_full_of Tryz.prog (by kernel_rfl)

set_option maxRecDepth 100000 in
theorem lifted (os : Os) (started : os.Started) (H : Type) (enc : TypeId × Value → H) :
    ReturnsInHanded {} Tryz.checked os 4 .any (Rows.freezeExactSpec.pre6 enc Tryz.prog Tryz.f4 Rows.freezeExactRow.domain false) (Rows.freezeExactSpec.post enc Tryz.prog Tryz.f4 false true false false) := by
  refine returnsInHanded_of_change (C := Tryz.checked) own started (by kernel_rfl) Tryz.func4
    (ChangeSpec.witness6 (enc := enc) (C := Tryz.checked) false ⟨#[],#[.slice none 0 0,.agg #[.slice none 0 0,.int .i64 0,.slice none 0 0,.int .i64 0],.agg #[.slice none 0 0,.slice none 0 0],.int .i64 0,.bool false,.slice none 0 0],[]⟩ 8 (by kernel_rfl) (by kernel_rfl) (by kernel_rfl) (by kernel_rfl)) ?_
  intro W base args ds gs before hval0 hW hcnd _
  have hval : ∀ (j : Nat) t v,Tryz.f4.params[j]? = some t → args[j]? = some v → Value.okWide Tryz.prog W .any base t v := hval0
  have hW' := hW
  obtain ⟨p,q,hA0,hV,rfl,hfz,hnd⟩ := hW
  have hA : DataW.TrodAll enc Tryz.prog W 0 (fun _ => true) true Tryz.f4.params.toList args.toList ds p := hA0
  have hlt := hA.lt
  rw [Tryz.params4] at hA hval
  obtain ⟨v0,vs0,d0,ds0,p0,q0,hargs,rfl,rfl,h0,e0⟩ := trodAll_cons hA
  obtain ⟨v1,vs1,d1,ds1,p1,q1,rfl,rfl,rfl,h1,e1⟩ := trodAll_cons e0
  obtain ⟨v2,vs2,d2,ds2,p2,q2,rfl,rfl,rfl,h2,e2⟩ := trodAll_cons e1
  obtain ⟨v3,vs3,d3,ds3,p3,q3,rfl,rfl,rfl,h3,e3⟩ := trodAll_cons e2
  obtain ⟨v4,vs4,d4,ds4,p4,q4,rfl,rfl,rfl,h4,e4⟩ := trodAll_cons e3
  obtain ⟨v5,vs5,d5,ds5,p5,q5,rfl,rfl,rfl,h5,e5⟩ := trodAll_cons e4
  obtain ⟨rfl,rfl,rfl⟩ := trodAll_nil e5
  obtain rfl : args = #[v0,v1,v2,v3,v4,v5] := by cases args; simp_all
  clear hA0 hval0
  obtain ⟨n0,q0,r0⟩ := arg_ints Tryz.underlying22 Tryz.underlying3 (by kernel_rfl) (hval 0 22 v0 rfl rfl) h0
  obtain ⟨n1,q1,r1⟩ := AfY AhB Tryz.underlying51 (hval 1 51 v1 rfl rfl) h1
  obtain ⟨n2,q2,r2⟩ := AfY Ahg Tryz.underlying54 (hval 2 54 v2 rfl rfl) h2
  obtain ⟨n3,lo3,hi3,q3⟩ := arg_int Tryz.underlying3 (hval 3 3 v3 rfl rfl) h3
  obtain ⟨n4,q4,r4⟩ := arg_one (e1 := vb) Ahq (fun _ h => by rw [Tryz.underlying4] at h; cases h) (fun _ _ h => by rw [Tryz.underlying4] at h; cases h) (hval 4 4 v4 rfl rfl) h4
  obtain ⟨n5,q5,r5⟩ := arg_one (e1 := (Mp 1 Bi 0)) Ahf (fun _ h => by rw [Tryz.underlying22] at h; cases h) (fun _ _ h => by rw [Tryz.underlying22] at h; cases h) (hval 5 22 v5 rfl rfl) h5
  have hspec : Go.Dm.Spec Tryz.prog 4 [.p (Mp 1 Bi 0 n0),.p (.agg (Ab n1)),.p (.agg (Al n2)),.p (vk .i64 n3),.p (vb n4),.p ((Mp 1 Bi 0) n5)] [] (.p (vb true)) [] [] := Acd n0 n1 n2 n3 n4 n5 true (AfH n0 n1 n2 n3 n4 n5 q0 q1 q2 lo3 hi3 q4 q5)
  refine (Go.Dm.Spec.law hspec (vs := #[v0,v1,v2,v3,v4,v5]) (W := W) rfl ?_).mono fun e W' ⟨he,hk⟩ => ?_
  · intro β objs i x hx
    match i,hx with
    | 0,hx => simp at hx; subst hx; exact r0 β objs _ (fun x hx => hlt x (by simp [hx]))
    | 1,hx => simp at hx; subst hx; exact r1 β objs _ (fun x hx => hlt x (by simp [hx]))
    | 2,hx => simp at hx; subst hx; exact r2 β objs _ (fun x hx => hlt x (by simp [hx]))
    | 3,hx => simp at hx; subst hx; exact q3 β objs _
    | 4,hx => simp at hx; subst hx; exact r4 β objs _ (fun x hx => hlt x (by simp [hx]))
    | 5,hx => simp at hx; subst hx; exact r5 β objs _ (fun x hx => hlt x (by simp [hx]))
    | n + 6,hx => simp at hx
  · subst he
    exact ⟨_,rfl,law_post kids full (by rw [Tryz.params4]; decide) rfl (tb := 4) (by kernel_rfl) Tryz.underlying4 hW' rfl hk⟩

theorem over : Rows.freezeExactRow.holds Tryz.pinned (OpenSpec.ofChange Rows.freezeExactSpec) :=
  OpenClaim.holds_of_wide 4 Tryz.f4 rfl rfl rfl rfl rfl rfl rfl ⟨rfl,rfl,rfl,rfl,rfl⟩ rfl rfl rfl rfl rfl (by kernel_rfl) Tryz.func4 (by kernel_rfl)
    (of_decide_eq_true (by kernel_rfl)) (by unfold Func.isWrapper; first | (rw [if_pos (by decide +kernel)]; kernel_rfl) | (rw [if_neg (by decide +kernel)]; exact ⟨rfl,rfl⟩))
    (fun os started H enc _ => lifted os started H enc)

theorem proved : Rows.FreezeExactSaid :=
  over
#print axioms proved
end Go.Proofs.YtkkeddafdmjhlaaGreat.freezeExact

