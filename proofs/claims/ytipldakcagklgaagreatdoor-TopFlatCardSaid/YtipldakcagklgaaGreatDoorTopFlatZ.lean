/- Proved: for every input the law TopFlat returns true, and each argument reads behind the call as it read before, the listed variables being tied to the program's text. No further condition. -/
import Derived.Test.YtipldakcagklgaaGreatDoorRows
import Derived.Test.YtipldakcagklgaaGreatDoorCards
import Derived.Test.YtipldakcagklgaaGreatDoorTie
import Derived.SevenTiedAt
import Derived.Lay
import Derived.LaidMore
import Derived.WalkKit
import Derived.ProofKit
import Derived.Test.YtipldakcagklgaaGreatDoorTopFlatA2
import Derived.Test.YtipldakcagklgaaGreatDoorTopFlatA8
set_option linter.unusedVariables false
set_option linter.unusedSimpArgs false
namespace Go.Proofs.YtipldakcagklgaaGreatDoor.topFlat
open Go.ChangeShapes Go.WideShapes Go.ChangeAt Go.RowKit Go.Dm
set_option linter.unusedVariables false

theorem own : ownKnob Tryz.prog.godebug = none := by kernel_rfl
theorem kids : Kids Tryz.prog (· < Tryz.prog.types.size) := kids_rows (by kernel_rfl) (by kernel_rfl)
theorem full : ∀ t e,t < Tryz.prog.types.size → Tryz.prog.underlying t = some (.slice e) → 0 < Tryz.prog.cellsOf e := slices_full_of Tryz.prog (by kernel_rfl)

set_option maxRecDepth 100000 in
theorem lifted (os : Os) (started : os.Started) (H : Type) (enc : TypeId × Value → H) :
    ReturnsInHanded {} Tryz.checked os 3 .any (fun w args => (Rows.topFlatSpec.pre enc Tryz.prog Tryz.f3 [] false w args ∧ laidMetH Tryz.prog Rows.topFlatRow.laid w) ∧ sizedMet enc Tryz.prog Tryz.f3 (OpenSpec.ofChange Rows.topFlatSpec) false w args)
      (Rows.topFlatSpec.post enc Tryz.prog Tryz.f3 false true false false) := by
  refine returnsInHanded_of_change_and (C := Tryz.checked) (X := fun w _ => laidMetH Tryz.prog Rows.topFlatRow.laid w) (fun _ _ _ hh h => h.of_heap hh) own started (by kernel_rfl) Tryz.func3
    (ChangeSpec.witness_shaped (enc := enc) (C := Tryz.checked) (os := os) (X := fun w _ => laidMetH Tryz.prog Rows.topFlatRow.laid w) false (World.laidAll Tryz.prog os Rows.topFlatRow.laid) #[.slice none 0 0,.int .u8 0] 8 (World.laidAll_os _ _ _)
      (World.shaped_of_ZipB (by kernel_rfl) (by kernel_rfl)) (by kernel_rfl) (by kernel_rfl) (by kernel_rfl)
      (by rw [MakeChecks.laidMetH_plain _ _ _ (by kernel_rfl)]; exact laidMet_laidAll _ (by kernel_rfl) (by kernel_rfl))) ?_
  intro W base args ds gs before hval0 hW _ _ _ _
  have hval : ∀ (j : Nat) t v,Tryz.f3.params[j]? = some t → args[j]? = some v → Value.okWide Tryz.prog W .any base t v := hval0
  have hW' := hW
  obtain ⟨p,q,hA0,hV,rfl,hfz,hnd⟩ := hW
  have hA : DataW.TrodAll enc Tryz.prog W 0 (fun _ => true) true Tryz.f3.params.toList args.toList ds p := hA0
  have hlt := hA.lt
  rw [Tryz.params3] at hA hval
  obtain ⟨v0,vs0,d0,ds0,p0,q0,hargs,rfl,rfl,h0,e0⟩ := trodAll_cons hA
  obtain ⟨v1,vs1,d1,ds1,p1,q1,rfl,rfl,rfl,h1,e1⟩ := trodAll_cons e0
  obtain ⟨rfl,rfl,rfl⟩ := trodAll_nil e1
  obtain rfl : args = #[v0,v1] := by cases args; simp_all
  clear hA0 hval0
  obtain ⟨n0,q0,r0⟩ := arg_ints Tryz.underlying22 Tryz.underlying3 (by kernel_rfl) (hval 0 22 v0 rfl rfl) h0
  obtain ⟨n1,lo1,hi1,q1⟩ := arg_int Tryz.underlying5 (hval 1 5 v1 rfl rfl) h1
  have hspec : Go.Dm.Spec Tryz.prog 3 [.p (Mv 1 Bm 0 n0),.p (vk .u8 n1)] [] (.p (vb true)) [] [] := AfJ n0 n1 true (AhJ n0 n1 lo1 hi1)
  refine (Go.Dm.Spec.law hspec (vs := #[v0,v1]) (W := W) rfl ?_).mono fun e W' ⟨he,hk⟩ => ?_
  · intro β objs i x hx
    match i,hx with
    | 0,hx => simp at hx; subst hx; exact r0 β objs _ (fun x hx => hlt x (by simp [hx]))
    | 1,hx => simp at hx; subst hx; exact q1 β objs _
    | n + 2,hx => simp at hx
  · subst he
    exact ⟨_,rfl,law_post kids full (by rw [Tryz.params3]; decide) rfl (tb := 4) (by kernel_rfl) Tryz.underlying4 hW' rfl hk⟩

set_option maxHeartbeats 4000000 in
set_option maxRecDepth 100000 in
theorem facts : joinedFacts Tryz.pinned.checked.prog 3 Tryz.f3 Rows.topFlatSpec Rows.topFlatRow = true := by
  unfold joinedFacts
  simp only [Bool.and_eq_true]
  repeat' apply And.intro
  all_goals as_aux_lemma => kernel_rfl

theorem over : Rows.topFlatRow.holds Tryz.pinned (OpenSpec.ofChange Rows.topFlatSpec) :=
  OpenClaim.holds_of_wide 3 Tryz.f3 rfl rfl rfl rfl rfl rfl rfl ⟨rfl,rfl,rfl,rfl,rfl⟩ rfl rfl rfl rfl rfl (by kernel_rfl) Tryz.func3 facts
    (of_decide_eq_true (by kernel_rfl)) (by unfold Func.isWrapper; first | (rw [if_pos (by decide +kernel)]; kernel_rfl) | (rw [if_neg (by decide +kernel)]; exact ⟨rfl,rfl⟩))
    (fun os started H enc _ => lifted os started H enc)

theorem goes_none {P : Program} (h : (P.funcs.toList.any Func.goes) = false) (f : FuncId) : P.goes f = false := by
  have hg : ∀ (g : Nat) (fn : Func),P.funcs[g]? = some fn → fn.goes = false := fun g fn hq => by
    have := List.any_eq_false.1 h fn (by rw [Array.mem_toList_iff]; exact Array.mem_of_getElem? hq)
    simpa using this
  have h2 : P.funcs.any Func.goes = false := by rw [← Array.any_toList]; exact h
  unfold Program.goes
  rw [h2,Bool.and_false,Bool.or_false,List.any_eq_false]
  intro g _
  cases hq : P.funcs[g]? with
  | none => simp
  | some fn => simp [hg g fn hq]
theorem noGo : (Tryz.prog.funcs.toList.any Func.goes) = false := by kernel_rfl
theorem goes : false = Rows.topFlatRow.goesBy Tryz.prog := by
  show false = ((Tryz.prog.funcNamed Rows.topFlatRow.func).any Tryz.prog.goes || false)
  cases Tryz.prog.funcNamed Rows.topFlatRow.func with
  | none => rfl
  | some f => simp [goes_none noGo f]

theorem proved : Rows.TopFlatCardSaid :=
  Claim7.holds_tied_plain_at .later [] [.data,.data,.data,.data,.pinned] true (true, "a59cef7b37ac29931079deaeed5f970133a732304a957145c8aa32c437c2e5d2") false
    over (fun _ h => by cases h) (by kernel_rfl) (fun _ h => by cases h) topFlat_row_tie rfl ⟨rfl,rfl⟩ (by kernel_rfl) rfl
    (fun f fn hf hfn => by
      obtain rfl : f = 3 := Option.some.inj ((show Tryz.prog.funcNamed "groupcontrol/groupcontroltop.TopFlat" = some 3 by kernel_rfl).symm.trans hf) |>.symm
      obtain rfl : fn = Tryz.f3 := (Option.some.inj (Tryz.func3.symm.trans hfn)).symm
      exact ⟨by kernel_rfl,fun j t ht => by
        rw [Tryz.params3] at ht
        have hm : t ∈ [22,5] := by simpa using Array.mem_of_getElem? ht
        have hall : ([22,5].all fun u => !Tryz.prog.wantsStandIn u) = true := by kernel_rfl
        exact (show Tryz.prog.wantsStandIn t = false by simpa using List.all_eq_true.1 hall t hm)⟩)
    goes
#print axioms proved
end Go.Proofs.YtipldakcagklgaaGreatDoor.topFlat

