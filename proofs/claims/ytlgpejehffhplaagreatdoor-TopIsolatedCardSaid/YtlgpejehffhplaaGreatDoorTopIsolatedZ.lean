/- Proved: for every input the law TopIsolated returns true, and each argument reads behind the call as it read before, the listed variables being tied to the program's text. No further condition. -/
import Derived.Test.YtlgpejehffhplaaGreatDoorRows
import Derived.Test.YtlgpejehffhplaaGreatDoorCards
import Derived.Test.YtlgpejehffhplaaGreatDoorTie
import Derived.SevenTiedAt
import Derived.Lay
import Derived.LaidMore
import Derived.WalkKit
import Derived.ProofKit
import Derived.Test.YtlgpejehffhplaaGreatDoorTopIsolatedA1
import Derived.Test.YtlgpejehffhplaaGreatDoorTopIsolatedA3
import Derived.Test.YtlgpejehffhplaaGreatDoorTopIsolatedA9
import Derived.Handed
import Derived.Shelf.Vars
import Derived.Lib.LaidTab
set_option linter.unusedVariables false
set_option linter.unusedSimpArgs false
namespace Go.Proofs.YtlgpejehffhplaaGreatDoor.topIsolated
open Go.ChangeShapes Go.WideShapes Go.ChangeAt Go.RowKit Go.Dm
theorem own : ownKnob Tryz.prog.godebug = none := by kernel_rfl
theorem kids : Kids Tryz.prog (· < Tryz.prog.types.size) := kids_rows (by kernel_rfl) (by kernel_rfl)
theorem full : ∀ t e,t < Tryz.prog.types.size -> Tryz.prog.underlying t = some (.slice e) -> 0 < Tryz.prog.cellsOf e := slices_full_of Tryz.prog (by kernel_rfl)
/-- the lifting, with what is listed and with the world's shape -/
theorem handed {H : Type} {enc : TypeId × Value -> H} {a : Assume} {C : Checked} {os : Os} {f : FuncId} {fn : Func} {s : ChangeSpec} {conds : List PathCond} {apart fresh handsOn again : Bool} {X : World -> Array Value -> Prop}
    (hX : ∀ (w w' : World) (args : Array Value),w.heap = w'.heap -> X w args -> X w' args)
    (own : ownKnob C.prog.godebug = none) (started : os.Started) (noInit : C.prog.inits.idxOf? f = none) (hfn : C.prog.funcs[f]? = some fn)
    (witness : ∃ (w : World) (tape : Tape) (i : Input),w.os = os /\ (w.forCall tape i).Shaped C.prog /\ i.vars = [] /\ Input.okWide C.prog (w.forCall tape i) .any w.heap.size f i /\
      ((s.pre enc C.prog fn conds apart (w.forCall tape i).memory i.args /\ X (w.forCall tape i).memory i.args) /\ sizedMet enc C.prog fn (OpenSpec.ofChange s) apart (w.forCall tape i).memory i.args) /\ a.holds C.prog (lone (Frame.enter C.prog f i.args .normal) [] (w.forCall tape i)))
    (contract : ∀ (W : World) (base : Nat) (args : Array Value) (ds gs : List (DataW H)) (before : List MemPlace),
      (∀ (j : Nat) t v,fn.params[j]? = some t -> args[j]? = some v -> Value.okWide C.prog W .any base t v) ->
      DataW.Whole enc C.prog fn.params.toList s.vars apart W args.toList ds gs before ->
      conds.all (PathCond.test C.prog ⟨fn.params.toList,ds,s.plain.varTypes C.prog,gs⟩) = true ->
      (DataW.weightsEach C.prog (fn.params.toList ++ s.plain.varTypes C.prog) (ds ++ gs)).all (· <= reachBytes) = true -> (X W args /\ W.ShapedOpen C.prog) ->
      a.holds C.prog (lone (Frame.enter C.prog f args .normal) [] W) ->
      Calls C.prog f args W fun e W' => ∃ v,e = .returned v /\ s.post enc C.prog fn apart fresh handsOn again W args v W') :
    ReturnsInHanded a C os f .any (fun w args => (s.pre enc C.prog fn conds apart w args /\ X w args) /\ sizedMet enc C.prog fn (OpenSpec.ofChange s) apart w args) (s.post enc C.prog fn apart fresh handsOn again) := by
  refine returnsInHanded_of_calls own started noInit witness ?_
  intro w tape i _ hsh _ hok hpre hholds
  obtain ⟨_,_,_,fn',hfn',_,_,_,_,hval⟩ := hok
  have e : fn' = fn := Option.some.inj (hfn'.symm.trans hfn)
  subst e
  obtain ⟨⟨⟨ds,gs,before,hw,hc⟩,hx⟩,hz⟩ := hpre
  have hw' := DataW.Whole.of_heap (w' := w.forCall tape i) (by rfl) hw
  refine (contract (w.forCall tape i) w.heap.size i.args ds gs before hval hw' hc (hz.weights hw) ⟨hX _ _ _ (by rfl) hx,hsh⟩ hholds).mono fun e W' ⟨v,he,hp⟩ => ?_
  subst he
  exact ChangeSpec.post_blind hp
theorem globals {W : World} (hx : laidMetH Tryz.prog Rows.topIsolatedRow.laid W) (hsh : W.ShapedOpen Tryz.prog) : GlOK Tryz.prog (fun _ => False) W := by
  rw [MakeChecks.laidMetH_plain _ _ _ (by kernel_rfl)] at hx
  intro x hm g hg
  refine ⟨id,?_⟩
  unfold glTabs at hm
  rcases List.mem_cons.1 hm with rfl | hm
  · obtain ⟨ps,h,_⟩ := hx
    obtain ⟨_,_,_,_,_,q0,_,_,_,_,h,_⟩ := h
    obtain ⟨_,_,_,_,_,q1,_,_,_,_,h,_⟩ := h
    obtain ⟨g',t',cs,fuel,p,q,hg',ht',hvar,hd,_,_⟩ := h
    obtain rfl := Option.some.inj (hg.symm.trans hg')
    have hty : (Tryz.prog.globalNamed "internal/strconv.uint64pow10").bind (fun g => (Tryz.prog.globals[g]?).map (·.type)) = some 476 := by kernel_rfl
    have hg2 : Tryz.prog.globalNamed "internal/strconv.uint64pow10" = some g := hg
    rw [hg2,Option.bind_some] at hty
    obtain rfl := Option.some.inj (hty.symm.trans ht')
    have hc := Lib.cells_of_tab (zs := (List.range 20).map fun i => ((10 ^ i : Nat) : Int)) (k := .u64) (e := 352) (n := 20) (by kernel_rfl) (by kernel_rfl) (by kernel_rfl) (by kernel_rfl) hd
    unfold World.var? at hvar
    have hvar : (Tryz.prog.globalNamed "internal/strconv.uint64pow10").bind _ = some cs := hvar
    rw [hg2,Option.bind_some] at hvar
    split at hvar
    · rename_i c e f hh
      obtain rfl := Option.some.inj hvar
      refine ⟨_,_,_,hh,?_⟩
      show c = _
      rw [<- hc]
    · cases hvar
  · obtain rfl := List.mem_singleton.1 hm
    have hg2 : Tryz.prog.globalNamed "internal/bytealg.MaxLen" = some g := hg
    obtain rfl : 0 = g := Option.some.inj ((show Tryz.prog.globalNamed "internal/bytealg.MaxLen" = some 0 by kernel_rfl).symm.trans hg2)
    obtain ⟨m,h⟩ := cell_of_shapedOpen_int (P := Tryz.prog) (g := 0) (t := 3) (zero := #[.int .i64 0]) (k := .i64) hsh (of_decide_eq_true (by kernel_rfl)) (by kernel_rfl) rfl (by kernel_rfl) (by kernel_rfl) (by kernel_rfl)
    unfold World.cell? at h
    split at h
    · rename_i c e f hh
      exact ⟨_,_,_,hh,m,by simpa using h⟩
    · cases h
set_option maxRecDepth 100000 in
theorem lifted (os : Os) (started : os.Started) (H : Type) (enc : TypeId × Value -> H) :
    ReturnsInHanded {} Tryz.checked os 3 .any (fun w args => (Rows.topIsolatedSpec.pre enc Tryz.prog Tryz.f3 [] false w args /\ laidMetH Tryz.prog Rows.topIsolatedRow.laid w) /\ sizedMet enc Tryz.prog Tryz.f3 (OpenSpec.ofChange Rows.topIsolatedSpec) false w args)
      (Rows.topIsolatedSpec.post enc Tryz.prog Tryz.f3 false true false false) := by
  refine handed (C := Tryz.checked) (X := fun w _ => laidMetH Tryz.prog Rows.topIsolatedRow.laid w) (fun _ _ _ hh h => h.of_heap hh) own started (by kernel_rfl) Tryz.func3
    (ChangeSpec.witness_shaped (enc := enc) (C := Tryz.checked) (os := os) (X := fun w _ => laidMetH Tryz.prog Rows.topIsolatedRow.laid w) false (World.laidAll Tryz.prog os Rows.topIsolatedRow.laid) #[.slice none 0 0] 8 (World.laidAll_os _ _ _)
      (World.shaped_of_ZipB (by kernel_rfl) (by kernel_rfl)) (by kernel_rfl) (by kernel_rfl) (by kernel_rfl)
      (by rw [MakeChecks.laidMetH_plain _ _ _ (by kernel_rfl)]; exact laidMet_laidAll _ (by kernel_rfl) (by kernel_rfl))) ?_
  intro W base args ds gs before hval0 hW _ _ ⟨hx,hsh⟩ _
  have hval : ∀ (j : Nat) t v,Tryz.f3.params[j]? = some t -> args[j]? = some v -> Value.okWide Tryz.prog W .any base t v := hval0
  have hW' := hW
  obtain ⟨p,q,hA0,hV,rfl,hfz,hnd⟩ := hW
  have hA : DataW.TrodAll enc Tryz.prog W 0 (fun _ => true) true Tryz.f3.params.toList args.toList ds p := hA0
  have hlt := hA.lt
  rw [Tryz.params3] at hA hval
  obtain ⟨v0,vs0,d0,ds0,p0,q0,hargs,rfl,rfl,h0,e0⟩ := trodAll_cons hA
  obtain ⟨rfl,rfl,rfl⟩ := trodAll_nil e0
  obtain rfl : args = #[v0] := by cases args; simp_all
  clear hA0 hval0
  obtain ⟨n0,q0,r0⟩ := arg_ints Tryz.underlying22 Tryz.underlying3 (by kernel_rfl) (hval 0 22 v0 rfl rfl) h0
  have hspec : Go.Dm.Spec Tryz.prog 3 [.p (Lq 1 Cj 0 n0)] [] (.p (vb true)) [] [] := AlN (Apd n0 )
  refine (Go.Dm.Spec.law hspec (vs := #[v0]) (W := W) (globals hx hsh) rfl ?_).mono fun e W' ⟨he,hk⟩ => ?_
  · intro U objs i x hx
    match i,hx with
    | 0,hx => simp at hx; subst hx; exact r0 U objs _ (fun x hx => hlt x (by simp [hx]))
    | n + 1,hx => simp at hx
  · subst he
    exact ⟨_,rfl,law_post kids full (by rw [Tryz.params3]; decide) rfl (J := 4) (by kernel_rfl) Tryz.underlying4 hW' rfl hk⟩
set_option maxHeartbeats 4000000 in
set_option maxRecDepth 100000 in
theorem facts : joinedFacts Tryz.pinned.checked.prog 3 Tryz.f3 Rows.topIsolatedSpec Rows.topIsolatedRow = true := by
  unfold joinedFacts
  simp only [Bool.and_eq_true]
  repeat' apply And.intro
  all_goals as_aux_lemma => kernel_rfl
theorem over : Rows.topIsolatedRow.holds Tryz.pinned (OpenSpec.ofChange Rows.topIsolatedSpec) :=
  OpenClaim.holds_of_wide 3 Tryz.f3 rfl rfl rfl rfl rfl rfl rfl ⟨rfl,rfl,rfl,rfl,rfl⟩ rfl rfl rfl rfl rfl (by kernel_rfl) Tryz.func3 facts
    (of_decide_eq_true (by kernel_rfl)) (by unfold Func.isWrapper; first | (rw [if_pos (by decide +kernel)]; kernel_rfl) | (rw [if_neg (by decide +kernel)]; exact ⟨rfl,rfl⟩))
    (fun os started H enc _ => lifted os started H enc)
theorem goes_none {P : Program} (h : (P.funcs.toList.any Func.goes) = false) (f : FuncId) : P.goes f = false := by
  have hg : ∀ (g : Nat) (fn : Func),P.funcs[g]? = some fn -> fn.goes = false := fun g fn hq => by
    have := List.any_eq_false.1 h fn (by rw [Array.mem_toList_iff]; exact Array.mem_of_getElem? hq)
    simpa using this
  have h2 : P.funcs.any Func.goes = false := by rw [<- Array.any_toList]; exact h
  unfold Program.goes
  rw [h2,Bool.and_false,Bool.or_false,List.any_eq_false]
  intro g _
  cases hq : P.funcs[g]? with
  | none => simp
  | some fn => simp [hg g fn hq]
theorem noGo : (Tryz.prog.funcs.toList.any Func.goes) = false := by kernel_rfl
theorem goes : false = Rows.topIsolatedRow.goesBy Tryz.prog := by
  show false = ((Tryz.prog.funcNamed Rows.topIsolatedRow.func).any Tryz.prog.goes || false)
  cases Tryz.prog.funcNamed Rows.topIsolatedRow.func with
  | none => rfl
  | some f => simp [goes_none noGo f]
theorem proved : Rows.TopIsolatedCardSaid :=
  Claim7.holds_tied_plain_at .later [] [.data,.data,.data,.data,.pinned] true (true, "e1cb385f04afd75e331b93900ef121211feb88ca620f23b0ddbae40e682393f3") false
    over (fun _ h => by cases h) (by kernel_rfl) (fun _ h => by cases h) topIsolated_row_tie rfl ⟨rfl,rfl⟩ (by kernel_rfl) rfl
    (fun f fn hf hfn => by
      obtain rfl : f = 3 := Option.some.inj ((show Tryz.prog.funcNamed "groupcontrol/groupcontroltop.TopIsolated" = some 3 by kernel_rfl).symm.trans hf) |>.symm
      obtain rfl : fn = Tryz.f3 := (Option.some.inj (Tryz.func3.symm.trans hfn)).symm
      exact ⟨by kernel_rfl,fun j t ht => by
        rw [Tryz.params3] at ht
        have hm : t ∈ [22] := by simpa using Array.mem_of_getElem? ht
        have hall : ([22].all fun u => !Tryz.prog.wantsStandIn u) = true := by kernel_rfl
        exact (show Tryz.prog.wantsStandIn t = false by simpa using List.all_eq_true.1 hall t hm)⟩)
    goes
#print axioms proved
end Go.Proofs.YtlgpejehffhplaaGreatDoor.topIsolated
