/- Proved: for every input the law CpusetAll returns true, and each argument reads behind the call as it read before. No condition. -/
import Derived.Test.YtkmmocjhkaagpaaGreatRows
import Derived.Test.YtkmmocjhkaagpaaGreatCpusetAllA1
import Derived.Test.YtkmmocjhkaagpaaGreatCpusetAllA3
import Derived.Test.YtkmmocjhkaagpaaGreatCpusetAllA6
set_option linter.unusedVariables false
set_option linter.unusedSimpArgs false
namespace Go.Proofs.YtkmmocjhkaagpaaGreat.cpusetAll
open Go.ChangeShapes Go.WideShapes Go.ChangeAt Go.RowKit Go.Dm
set_option linter.unusedVariables false

theorem own : ownKnob Tryz.prog.godebug = none := by kernel_rfl
theorem kids : Kids Tryz.prog (· < Tryz.prog.types.size) := kids_rows (by kernel_rfl) (by kernel_rfl)
theorem full : ∀ t e,t < Tryz.prog.types.size → Tryz.prog.underlying t = some (.slice e) → 0 < Tryz.prog.cellsOf e := slices_full_of Tryz.prog (by kernel_rfl)

set_option maxRecDepth 100000 in
theorem lifted (os : Os) (started : os.Started) (H : Type) (enc : TypeId × Value → H) :
    ReturnsInHanded {} Tryz.checked os 3 .any (Rows.cpusetAllSpec.pre6 enc Tryz.prog Tryz.f3 Rows.cpusetAllRow.domain false) (Rows.cpusetAllSpec.post enc Tryz.prog Tryz.f3 false true false false) := by
  refine returnsInHanded_of_change (C := Tryz.checked) own started (by kernel_rfl) Tryz.func3
    (ChangeSpec.witness6 (enc := enc) (C := Tryz.checked) false ⟨#[],#[.slice none 0 0,.slice none 0 0,.int .i64 0],[]⟩ 8 (by kernel_rfl) (by kernel_rfl) (by kernel_rfl) (by kernel_rfl)) ?_
  intro W base args ds gs before hval0 hW hcnd _
  have hval : ∀ (j : Nat) t v,Tryz.f3.params[j]? = some t → args[j]? = some v → Value.okWide Tryz.prog W .any base t v := hval0
  have hW' := hW
  obtain ⟨p,q,hA0,hV,rfl,hfz,hnd⟩ := hW
  have hA : DataW.TrodAll enc Tryz.prog W 0 (fun _ => true) true Tryz.f3.params.toList args.toList ds p := hA0
  have hlt := hA.lt
  rw [Tryz.params3] at hA hval
  obtain ⟨v0,vs0,d0,ds0,p0,q0,hargs,rfl,rfl,h0,e0⟩ := trodAll_cons hA
  obtain ⟨v1,vs1,d1,ds1,p1,q1,rfl,rfl,rfl,h1,e1⟩ := trodAll_cons e0
  obtain ⟨v2,vs2,d2,ds2,p2,q2,rfl,rfl,rfl,h2,e2⟩ := trodAll_cons e1
  obtain ⟨rfl,rfl,rfl⟩ := trodAll_nil e2
  obtain rfl : args = #[v0,v1,v2] := by cases args; simp_all
  clear hA0 hval0
  obtain ⟨n0,q0,r0⟩ := Aiq Tryz.underlying22 Tryz.underlying3 (by kernel_rfl) (hval 0 22 v0 rfl rfl) h0
  obtain ⟨n1,q1,r1⟩ := Aiq Tryz.underlying22 Tryz.underlying3 (by kernel_rfl) (hval 1 22 v1 rfl rfl) h1
  obtain ⟨n2,lo2,hi2,q2⟩ := arg_int Tryz.underlying3 (hval 2 3 v2 rfl rfl) h2
  have hspec : Go.Dm.Spec Tryz.prog 3 [.p (Ly 1 Au 0 n0),.p (Ly 1 Au 0 n1),.p (vk .i64 n2)] [] (.p (vb true)) [] [] := Adm n0 n1 n2 true (Agt n0 n1 n2 q0 q1 lo2 hi2)
  refine (Go.Dm.Spec.law hspec (vs := #[v0,v1,v2]) (W := W) rfl ?_).mono fun e W' ⟨he,hk⟩ => ?_
  · intro β objs i x hx
    match i,hx with
    | 0,hx => simp at hx; subst hx; exact r0 β objs _ (fun x hx => hlt x (by simp [hx]))
    | 1,hx => simp at hx; subst hx; exact r1 β objs _ (fun x hx => hlt x (by simp [hx]))
    | 2,hx => simp at hx; subst hx; exact q2 β objs _
    | n + 3,hx => simp at hx
  · subst he
    exact ⟨_,rfl,law_post kids full (by rw [Tryz.params3]; decide) rfl (tb := 4) (by kernel_rfl) Tryz.underlying4 hW' rfl hk⟩

theorem over : Rows.cpusetAllRow.holds Tryz.pinned (OpenSpec.ofChange Rows.cpusetAllSpec) :=
  OpenClaim.holds_of_wide 3 Tryz.f3 rfl rfl rfl rfl rfl rfl rfl ⟨rfl,rfl,rfl,rfl,rfl⟩ rfl rfl rfl rfl rfl (by kernel_rfl) Tryz.func3 (by kernel_rfl)
    (of_decide_eq_true (by kernel_rfl)) (by unfold Func.isWrapper; first | (rw [if_pos (by decide +kernel)]; kernel_rfl) | (rw [if_neg (by decide +kernel)]; exact ⟨rfl,rfl⟩))
    (fun os started H enc _ => lifted os started H enc)

theorem proved : Rows.CpusetAllSaid :=
  over
#print axioms proved
end Go.Proofs.YtkmmocjhkaagpaaGreat.cpusetAll

