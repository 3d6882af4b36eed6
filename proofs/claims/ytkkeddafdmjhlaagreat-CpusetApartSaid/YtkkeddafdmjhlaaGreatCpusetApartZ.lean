/- Proved: for every input the law CpusetApart returns true, and each argument reads behind the call as it read before. No condition. -/
import Derived.Test.YtkkeddafdmjhlaaGreatRows
import Derived.Test.YtkkeddafdmjhlaaGreatCpusetApartA1
import Derived.Test.YtkkeddafdmjhlaaGreatCpusetApartA3
import Derived.Test.YtkkeddafdmjhlaaGreatCpusetApartA5
set_option linter.unusedVariables false
set_option linter.unusedSimpArgs false
namespace Go.Proofs.YtkkeddafdmjhlaaGreat.cpusetApart
open Go.ChangeShapes Go.WideShapes Go.ChangeAt Go.RowKit Go.Dm
set_option linter.unusedVariables false

theorem own : ownKnob Tryz.prog.godebug = none := by kernel_rfl
theorem kids : Kids Tryz.prog (· < Tryz.prog.types.size) := kids_rows (by kernel_rfl) (by kernel_rfl)
theorem full : ∀ t e,t < Tryz.prog.types.size → Tryz.prog.underlying t = some (.slice e) → 0 < Tryz.prog.cellsOf e := slices_full_of Tryz.prog (by kernel_rfl)

set_option maxRecDepth 100000 in
theorem lifted (os : Os) (started : os.Started) (H : Type) (enc : TypeId × Value → H) :
    ReturnsInHanded {} Tryz.checked os 5 .any (Rows.cpusetApartSpec.pre6 enc Tryz.prog Tryz.f5 Rows.cpusetApartRow.domain false) (Rows.cpusetApartSpec.post enc Tryz.prog Tryz.f5 false true false false) := by
  refine returnsInHanded_of_change (C := Tryz.checked) own started (by kernel_rfl) Tryz.func5
    (ChangeSpec.witness6 (enc := enc) (C := Tryz.checked) false ⟨#[],#[.slice none 0 0],[]⟩ 8 (by kernel_rfl) (by kernel_rfl) (by kernel_rfl) (by kernel_rfl)) ?_
  intro W base args ds gs before hval0 hW hcnd _
  have hval : ∀ (j : Nat) t v,Tryz.f5.params[j]? = some t → args[j]? = some v → Value.okWide Tryz.prog W .any base t v := hval0
  have hW' := hW
  obtain ⟨p,q,hA0,hV,rfl,hfz,hnd⟩ := hW
  have hA : DataW.TrodAll enc Tryz.prog W 0 (fun _ => true) true Tryz.f5.params.toList args.toList ds p := hA0
  have hlt := hA.lt
  rw [Tryz.params5] at hA hval
  obtain ⟨v0,vs0,d0,ds0,p0,q0,hargs,rfl,rfl,h0,e0⟩ := trodAll_cons hA
  obtain ⟨rfl,rfl,rfl⟩ := trodAll_nil e0
  obtain rfl : args = #[v0] := by cases args; simp_all
  clear hA0 hval0
  obtain ⟨n0,q0,r0⟩ := arg_ints Tryz.underlying22 Tryz.underlying3 (by kernel_rfl) (hval 0 22 v0 rfl rfl) h0
  have hspec : Go.Dm.Spec Tryz.prog 5 [.p (Mf 1 Bi 0 n0)] [] (.p (vb true)) [] [] := Aau n0 true (Adw n0 q0)
  refine (Go.Dm.Spec.law hspec (vs := #[v0]) (W := W) rfl ?_).mono fun e W' ⟨he,hk⟩ => ?_
  · intro β objs i x hx
    match i,hx with
    | 0,hx => simp at hx; subst hx; exact r0 β objs _ (fun x hx => hlt x (by simp [hx]))
    | n + 1,hx => simp at hx
  · subst he
    exact ⟨_,rfl,law_post kids full (by rw [Tryz.params5]; decide) rfl (tb := 4) (by kernel_rfl) Tryz.underlying4 hW' rfl hk⟩

theorem over : Rows.cpusetApartRow.holds Tryz.pinned (OpenSpec.ofChange Rows.cpusetApartSpec) :=
  OpenClaim.holds_of_wide 5 Tryz.f5 rfl rfl rfl rfl rfl rfl rfl ⟨rfl,rfl,rfl,rfl,rfl⟩ rfl rfl rfl rfl rfl (by kernel_rfl) Tryz.func5 (by kernel_rfl)
    (of_decide_eq_true (by kernel_rfl)) (by unfold Func.isWrapper; first | (rw [if_pos (by decide +kernel)]; kernel_rfl) | (rw [if_neg (by decide +kernel)]; exact ⟨rfl,rfl⟩))
    (fun os started H enc _ => lifted os started H enc)

theorem proved : Rows.CpusetApartSaid :=
  over
#print axioms proved
end Go.Proofs.YtkkeddafdmjhlaaGreat.cpusetApart

