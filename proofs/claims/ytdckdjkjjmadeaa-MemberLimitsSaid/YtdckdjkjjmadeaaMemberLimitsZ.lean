/- Proved: for every input the law MemberLimits returns true, and each argument reads behind the call as it read before. No condition. -/
import Derived.Test.YtdckdjkjjmadeaaRows
import Derived.Test.YtdckdjkjjmadeaaMemberLimitsA1
import Derived.Test.YtdckdjkjjmadeaaMemberLimitsA4
set_option linter.unusedVariables false
set_option linter.unusedSimpArgs false
namespace Go.Proofs.Ytdckdjkjjmadeaa.memberLimits
open Go.ChangeShapes Go.WideShapes Go.ChangeAt Go.RowKit Go.Dm
set_option linter.unusedVariables false

theorem own : ownKnob Try.prog.godebug = none := by kernel_rfl
theorem kids : Kids Try.prog (· < Try.prog.types.size) := kids_rows (by kernel_rfl) (by kernel_rfl)
theorem full : ∀ t e, t < Try.prog.types.size → Try.prog.underlying t = some (.slice e) → 0 < Try.prog.cellsOf e := slices_full_of Try.prog (by kernel_rfl)

set_option maxRecDepth 100000 in
theorem lifted (os : Os) (started : os.Started) (H : Type) (enc : TypeId × Value → H) :
    ReturnsInHanded {} Try.checked os 3 .any (Rows.memberLimitsSpec.pre6 enc Try.prog Try.f3 Rows.memberLimitsRow.domain false) (Rows.memberLimitsSpec.post enc Try.prog Try.f3 false true false false) := by
  refine returnsInHanded_of_change (C := Try.checked) own started (by kernel_rfl) Try.func3
    (ChangeSpec.witness6 (enc := enc) (C := Try.checked) false ⟨#[], #[.int .u8 0, .int .u8 0], []⟩ 8 (by kernel_rfl) (by kernel_rfl) (by kernel_rfl) (by kernel_rfl)) ?_
  intro W base args ds gs before hval0 hW hcnd _
  have hval : ∀ (j : Nat) t v, Try.f3.params[j]? = some t → args[j]? = some v → Value.okWide Try.prog W .any base t v := hval0
  have hW' := hW
  obtain ⟨p, q, hA0, hV, rfl, hfz, hnd⟩ := hW
  have hA : DataW.TrodAll enc Try.prog W 0 (fun _ => true) true Try.f3.params.toList args.toList ds p := hA0
  have hlt := hA.lt
  rw [Try.params3] at hA hval
  obtain ⟨v0, vs0, d0, ds0, p0, q0, hargs, rfl, rfl, h0, e0⟩ := trodAll_cons hA
  obtain ⟨v1, vs1, d1, ds1, p1, q1, rfl, rfl, rfl, h1, e1⟩ := trodAll_cons e0
  obtain ⟨rfl, rfl, rfl⟩ := trodAll_nil e1
  obtain rfl : args = #[v0, v1] := by cases args; simp_all
  clear hA0 hval0
  obtain ⟨n0, lo0, hi0, q0⟩ := arg_int Try.underlying5 (hval 0 5 v0 rfl rfl) h0
  obtain ⟨n1, lo1, hi1, q1⟩ := arg_int Try.underlying5 (hval 1 5 v1 rfl rfl) h1
  have hspec : Go.Dm.Spec Try.prog 3 [.p (vk .u8 n0), .p (vk .u8 n1)] [] (.p (vb true)) [] [] := law6_MemberLimits_spec n0 n1 true (memberLimits_true n0 n1 lo0 hi0 lo1 hi1)
  refine (Go.Dm.Spec.law hspec (vs := #[v0, v1]) (W := W) rfl ?_).mono fun e W' ⟨he, hk⟩ => ?_
  · intro β objs i x hx
    match i, hx with
    | 0, hx => simp at hx; subst hx; exact q0 β objs _
    | 1, hx => simp at hx; subst hx; exact q1 β objs _
    | n + 2, hx => simp at hx
  · subst he
    exact ⟨_, rfl, law_post kids full (by rw [Try.params3]; decide) rfl (tb := 4) (by kernel_rfl) Try.underlying4 hW' rfl hk⟩

theorem over : Rows.memberLimitsRow.holds Try.pinned (OpenSpec.ofChange Rows.memberLimitsSpec) :=
  OpenClaim.holds_of_wide 3 Try.f3 rfl rfl rfl rfl rfl rfl rfl ⟨rfl, rfl, rfl, rfl, rfl⟩ rfl rfl rfl rfl rfl (by kernel_rfl) Try.func3 (by kernel_rfl)
    (of_decide_eq_true (by kernel_rfl)) (by unfold Func.isWrapper; first | (rw [if_pos (by decide +kernel)]; kernel_rfl) | (rw [if_neg (by decide +kernel)]; exact ⟨rfl, rfl⟩))
    (fun os started H enc _ => lifted os started H enc)

theorem proved : Rows.MemberLimitsSaid :=
  over
#print axioms proved
end Go.Proofs.Ytdckdjkjjmadeaa.memberLimits
