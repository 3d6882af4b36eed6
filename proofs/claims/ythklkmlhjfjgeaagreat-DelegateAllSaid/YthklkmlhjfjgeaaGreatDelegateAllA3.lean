/- Texts of the proof of DelegateAll: the data machine, the models of the Go functions, their contracts. -/
import Derived.Test.YthklkmlhjfjgeaaGreatDelegateAllA2
import Derived.Test.YthklkmlhjfjgeaaGreatDelegateAllA1
import Derived.Test.YthklkmlhjfjgeaaGreatProg
set_option linter.unusedVariables false
set_option linter.unusedSimpArgs false
/- Plain theory, part 24: kinds of groups, domains, what fits. -/
namespace Go.Dm
def nodeN (t : Tree) (a : Int) : Node := (getN t a).getD zN
def thrN (t : Tree) (a : Int) : Bool := (nodeN t a).kind == 1
def invN (t : Tree) (id : Int) : Bool := ((upT t id).find? (thrN t)).elim false (fun x => x != id)
def domN (t : Tree) (id : Int) : Int := ((upT t id).find? (fun a => !thrN t a)).getD 0
def typeN (t : Tree) (id : Int) : Int := if !hasN t id then 0 else if thrN t id then 2 else if invN t id then 3 else if (kidsN t id).any (thrN t) then 1 else 0
theorem find5 {t : Tree} (w : WfT t) (id : Int) : Find_ref5 t id = some (nodeN t id, hasN t id) := by
 rw [Find_ref5_t w]
 unfold nodeN hasN
 cases getN t id <;> rfl
theorem findF {t : Tree} (w : WfT t) (id : Int) : Find_forest t id = some (nodeN t id, hasN t id) := by
 have := w.len2
 rw [Find_forest_eq t id (by omega)]
 unfold nodeN hasN
 cases getN t id <;> rfl
theorem find6 {h : Hierarchy} (w : WfH h) (id : Int) : Find_ref6 h id = some ((getK h.tasks id).getD zK, (getK h.tasks id).isSome) := by
 rw [Find_ref6_t w]
 cases getK h.tasks id <;> rfl
theorem findC {h : Hierarchy} (w : WfH h) (id : Int) : Find_crew h id = some ((getK h.tasks id).getD zK, (getK h.tasks id).isSome) := by
 have := w.len
 rw [Find_crew_eq h id (by omega)]
 cases getK h.tasks id <;> rfl
theorem nodeN_of {t : Tree} (w : WfT t) {x : Node} (hx : x ∈ t.nodes) : nodeN t x.id = x := by
 unfold nodeN
 rw [getN_of w.sorted hx]
 rfl
theorem nodeN_not {t : Tree} {id : Int} (h : hasN t id = false) : nodeN t id = zN := by
 unfold nodeN hasN at *
 cases hg : getN t id with
 | none => rfl
 | some x => rw [hg] at h; simp at h
theorem nodeN_id {t : Tree} {id : Int} (h : hasN t id = true) : (nodeN t id).id = id ∧ nodeN t id ∈ t.nodes := by
 unfold nodeN hasN at *
 cases hg : getN t id with
 | none => rw [hg] at h; simp at h
 | some x => exact ⟨(getN_some hg).2, (getN_some hg).1⟩
theorem ancN_up {t : Tree} (id : Int) : ancN t id = upT t id := by
 unfold ancN
 cases hg : hasN t id with
 | true => rfl
 | false =>
  have : upT t id = [] := upR_none fun y hy e => by
   have := hasN_iff.mpr ⟨y, by simpa using hy, e⟩
   rw [hg] at this
   simp at this
  rw [this]
  rfl
theorem up_not {t : Tree} {id : Int} (h : hasN t id = false) : upT t id = [] := upR_none fun y hy e => by
 have := hasN_iff.mpr ⟨y, by simpa using hy, e⟩
 rw [h] at this
 simp at this
theorem up_cons {t : Tree} (w : WfT t) {id : Int} (h : hasN t id = true) : upT t id = id :: upT t (nodeN t id).parent := by
 obtain ⟨e, hx⟩ := nodeN_id h
 have := w.up hx
 rw [e] at this
 exact this
theorem has_zero {t : Tree} (w : WfT t) : hasN t 0 = false := by
 cases h : hasN t 0 with
 | false => rfl
 | true =>
  obtain ⟨x, hx, e⟩ := hasN_iff.mp h
  have := w.id_pos hx
  omega
theorem has_parent {t : Tree} (w : WfT t) {x : Node} (hx : x ∈ t.nodes) (h1 : x.id ≠ 1) : hasN t x.parent = true := by
 rcases w.p.par x hx with ⟨h, _⟩ | ⟨_, _, ⟨z, hz, e⟩, _⟩
 ·exact absurd h h1
 ·exact hasN_iff.mpr ⟨z, hz, e⟩
theorem root_node {t : Tree} (w : WfT t) {x : Node} (hx : x ∈ t.nodes) (h1 : x.id = 1) : x.parent = 0 ∧ x.kind = 0 := by
 rcases w.p.par x hx with ⟨_, r⟩ | ⟨h, h2, _⟩
 ·exact ⟨r.parent, r.kind⟩
 ·omega
theorem Domain_ref8_t {t : Tree} (w : WfT t) (id : Int) : Domain_ref8 t id = some (domN t id, ((upT t id).find? (fun a => !thrN t a)).isSome) := by
 unfold Domain_ref8
 rw [Ancestors_ref5_t w, ancN_up, Option.bind_some]
 have hu := upT_len w id
 rw [if_pos (by omega), range_find (p := fun a => !thrN t a) (f := fun a => (a, true)) (z := (0, false)) (fun k x n => by
  unfold Domain_ref8L1
  rw [find5 w]
  simp only [Option.bind_some]
  rfl) rfl]
 unfold domN
 cases (upT t id).find? (fun a => !thrN t a) <;> rfl
theorem domain_threaded_t {t : Tree} (w : WfT t) (id : Int) : domain_threaded t id = some (domN t id) := by
 unfold domain_threaded
 rw [Ancestors_forest_t w, Option.bind_some]
 have hu := upT_len w id
 rw [if_pos (by omega), range_find (p := fun a => !thrN t a) (f := fun a => a) (z := 0) (fun k x n => by
  unfold domain_threadedL1
  rw [findF w]
  simp only [Option.bind_some]
  rfl) rfl]
 unfold domN
 cases (upT t id).find? (fun a => !thrN t a) <;> rfl
theorem invalid_threaded_t {t : Tree} (w : WfT t) (id : Int) : invalid_threaded t id = some (invN t id) := by
 unfold invalid_threaded
 rw [Ancestors_forest_t w, Option.bind_some]
 have hu := upT_len w id
 rw [if_pos (by omega), range_find (p := thrN t) (f := fun a => a != id) (z := false) (fun k x n => by
  unfold invalid_threadedL1
  rw [findF w]
  simp only [Option.bind_some]
  rfl) rfl]
 rfl
theorem inv_step {t : Tree} (w : WfT t) {id : Int} (h : hasN t id = true) (hk : thrN t id = false) : invN t id = (hasN t (nodeN t id).parent && (thrN t (nodeN t id).parent || invN t (nodeN t id).parent)) := by
 obtain ⟨e, hx⟩ := nodeN_id h
 unfold invN
 rw [up_cons w h, List.find?_cons, hk]
 simp only
 cases hp : hasN t (nodeN t id).parent with
 | false =>
  rw [up_not hp]
  rfl
 | true =>
  rw [up_cons w hp, List.find?_cons]
  cases hq : thrN t (nodeN t id).parent with
  | true =>
   have := w.par_lt hx
   simp
   omega
  | false =>
   simp only [Bool.true_and, Bool.false_or]
   cases hf : (upT t (nodeN t (nodeN t id).parent).parent).find? (thrN t) with
   | none => rfl
   | some y =>
    have hy := List.mem_of_find?_eq_some hf
    obtain ⟨q, hq2⟩ := nodeN_id hp
    have h0 : hasN t (nodeN t (nodeN t id).parent).parent = true := by
     obtain ⟨z, hz, ez⟩ := up_node hy
     exact hasN_iff.mpr ⟨z, hz, ez⟩
    obtain ⟨q3, hq4⟩ := nodeN_id h0
    rw [← q3] at hy
    have h1 := up_le w _ hq4 _ hy
    have h2 := w.par_lt hq2
    have h3 := w.par_lt hx
    rw [q3] at h1
    have a1 : (y != id) = true := by rw [bne_iff_ne]; omega
    have a2 : (y != (nodeN t id).parent) = true := by rw [bne_iff_ne]; omega
    show (y != id) = (y != (nodeN t id).parent)
    rw [a1, a2]
theorem Type_ref8J1_t {t : Tree} (w : WfT t) {id : Int} (h : hasN t id = true) (b : Bool) : Type_ref8J1 t id b = some (if b then 3 else if (kidsN t id).any (thrN t) then 1 else 0) := by
 unfold Type_ref8J1
 cases b with
 | true => rfl
 | false =>
  simp only [Bool.false_eq_true, if_false]
  rw [Children_ref5_t w, if_pos h, Option.bind_some]
  have := kidsN_length t id
  have := w.len2
  rw [if_pos (by omega), range_find (p := thrN t) (f := fun _ => (1 : Int)) (z := (0 : Int)) (fun k x n => by
   unfold Type_ref8L1
   rw [find5 w]
   simp only [Option.bind_some]
   rfl) rfl]
  cases hf : (kidsN t id).find? (thrN t) with
  | none =>
   rw [List.find?_eq_none] at hf
   have : (kidsN t id).any (thrN t) = false := by
    rw [List.any_eq_false]
    exact hf
   rw [this]
   rfl
  | some y =>
   have : (kidsN t id).any (thrN t) = true := List.any_eq_true.mpr ⟨y, List.mem_of_find?_eq_some hf, List.find?_some hf⟩
   rw [this]
   rfl
theorem Type_ref8F_t {t : Tree} (w : WfT t) : ∀ (n : Nat) (id : Int), id.toNat < n → Type_ref8F n t id = some (typeN t id) := by
 intro n
 induction n with
 | zero => intro id h; omega
 | succ n ih =>
  intro id hn
  rw [Type_ref8F]
  unfold Type_ref8B
  rw [find5 w, Option.bind_some]
  unfold typeN
  cases h : hasN t id with
  | false => rfl
  | true =>
   simp only [Bool.not_true, Bool.false_eq_true, if_false]
   obtain ⟨e, hx⟩ := nodeN_id h
   cases hk : thrN t id with
   | true =>
    have hk' : ((nodeN t id).kind == 1) = true := hk
    rw [hk']
    rfl
   | false =>
    have hk' : ((nodeN t id).kind == 1) = false := hk
    rw [hk']
    simp only [Bool.false_eq_true, if_false]
    rw [find5 w, Option.bind_some, inv_step w h hk]
    simp only
    cases hp : hasN t (nodeN t id).parent with
    | false =>
     simp only [Bool.false_eq_true, if_false, Bool.false_and]
     rw [Type_ref8J1_t w h]
     rfl
    | true =>
     obtain ⟨q, hq2⟩ := nodeN_id hp
     simp only [if_true, Bool.true_and]
     cases hq : thrN t (nodeN t id).parent with
     | true =>
      have hq' : ((nodeN t (nodeN t id).parent).kind == 1) = true := hq
      rw [hq']
      simp only [if_true, Bool.true_or]
      exact Type_ref8J1_t w h true
     | false =>
      have hq' : ((nodeN t (nodeN t id).parent).kind == 1) = false := hq
      rw [hq']
      simp only [Bool.false_eq_true, if_false, Bool.false_or]
      have h1 := w.par_lt hx
      have h2 := w.id_pos hq2
      rw [q] at h2 ⊢
      rw [ih _ (by omega), Option.bind_some, Type_ref8J1_t w h]
      have : (typeN t (nodeN t id).parent == 3) = invN t (nodeN t id).parent := by
       unfold typeN
       rw [hp, hq]
       simp only [Bool.not_true, Bool.false_eq_true, if_false]
       cases invN t (nodeN t id).parent with
       | true => rfl
       | false =>
        simp only [Bool.false_eq_true, if_false]
        split <;> rfl
      rw [this]
theorem Type_ref8_t {t : Tree} (w : WfT t) (id : Int) : Type_ref8 t id = some (typeN t id) := by
 unfold Type_ref8
 by_cases h : id.toNat < FUEL
 ·exact Type_ref8F_t w FUEL id h
 ·have hid : hasN t id = false := by
   cases hh : hasN t id with
   | false => rfl
   | true =>
    obtain ⟨x, hx, e⟩ := hasN_iff.mp hh
    have h1 := w.next x hx
    have h2 := w.nextLe
    rw [FUEL_eq] at h
    omega
  have : FUEL = 1099511627775 + 1 := rfl
  rw [this, Type_ref8F]
  unfold Type_ref8B typeN
  rw [find5 w, Option.bind_some, hid]
  rfl
theorem type_inv {t : Tree} {id : Int} : typeN t id = 3 ↔ (hasN t id = true ∧ thrN t id = false ∧ invN t id = true) := by
 unfold typeN
 cases hasN t id <;> cases thrN t id <;> cases invN t id <;> simp <;> split <;> simp
def topN (t : Tree) (x : Node) : Int := if x.id == 1 then 31 else (nodeN t x.parent).control
def availN (t : Tree) (x : Node) : Int := if x.kind == 1 then kandNot .i64 (topN t x) 6 else topN t x
theorem kandNot_twice : (List.range 32).all (fun c => kandNot .i64 (kandNot .i64 (c : Int) 6) 6 == kandNot .i64 (c : Int) 6) = true := by decide +kernel
theorem kandNot_idem {c : Int} (h0 : 0 ≤ c) (h1 : c ≤ 31) : kandNot .i64 (kandNot .i64 c 6) 6 = kandNot .i64 c 6 := by
 have := List.all_eq_true.mp kandNot_twice c.toNat (by rw [List.mem_range]; omega)
 rw [show ((c.toNat : Nat) : Int) = c by omega] at this
 simpa using this
theorem control_bounds {t : Tree} (w : WfT t) (id : Int) : 0 ≤ (nodeN t id).control ∧ (nodeN t id).control ≤ 31 := by
 cases h : hasN t id with
 | false =>
  rw [nodeN_not h]
  simp [zN]
 | true =>
  have v := w.p.val _ (nodeN_id h).2
  exact ⟨v.c1, v.c2⟩
theorem from_control_t {t : Tree} (w : WfT t) (x : Node) : from_control t x = some (availN t x) := by
 have hJ : from_controlJ1 x (topN t x) = some (availN t x) := by
  unfold from_controlJ1 from_controlJ2 availN
  cases (x.kind == 1) <;> rfl
 unfold from_control
 by_cases h : x.id = 1
 ·have h1 : (x.id != 1) = false := by simp [h]
  have h2 : (x.id == 1) = true := by simp [h]
  have ht : topN t x = 31 := by
   unfold topN
   rw [h2]
   rfl
  rw [h1, if_neg (by simp), ← ht]
  exact hJ
 ·have h1 : (x.id != 1) = true := by simpa using h
  have h2 : (x.id == 1) = false := by simpa using h
  have ht : topN t x = (nodeN t x.parent).control := by
   unfold topN
   rw [h2]
   rfl
  rw [h1, if_pos rfl, findF w, Option.bind_some]
  simp only
  rw [← ht]
  exact hJ
theorem Available_ref7_t {t : Tree} (w : WfT t) {x : Node} (hx : x ∈ t.nodes) : Available_ref7 t x.id = some (availN t x) := by
 unfold Available_ref7
 rw [find5 w, Option.bind_some, nodeN_of w hx, has_of hx]
 simp only [Bool.not_true, Bool.false_eq_true, if_false]
 unfold Available_ref7J1 Available_ref7J2 availN
 by_cases h : x.id = 1
 ·have h1 : (x.id != 1) = false := by simp [h]
  have h2 : (x.id == 1) = true := by simp [h]
  have ht : topN t x = 31 := by
   unfold topN
   rw [h2]
   rfl
  rw [h1, if_neg (by simp), ht]
  cases (x.kind == 1) <;> simp
 ·have h1 : (x.id != 1) = true := by simpa using h
  have h2 : (x.id == 1) = false := by simpa using h
  have ht : topN t x = (nodeN t x.parent).control := by
   unfold topN
   rw [h2]
   rfl
  rw [h1, if_pos rfl]
  unfold Acting_ref7
  rw [find5 w, Option.bind_some, nodeN_of w hx, has_of hx]
  simp only [Bool.not_true, Bool.false_or, h2, Bool.false_eq_true, if_false]
  rw [find5 w, Option.bind_some, ht]
  simp only
  cases (x.kind == 1) with
  | false => simp
  | true =>
   have := control_bounds w x.parent
   simp only [if_true, Option.bind_some]
   rw [kandNot_idem this.1 this.2]
structure SndN (h : Hierarchy) (x : Node) : Prop where
 av : kandNot .i64 x.control (availN h.tree x) = 0
 busy : x.id ≠ 1 → kand .i64 x.control 6 ≠ 0 → tasksK h x.id = []
structure SoundP (h : Hierarchy) : Prop where
 wf : WfH h
 snd : ∀ x ∈ h.tree.nodes, SndN h x
structure FitN (h : Hierarchy) (x : Node) : Prop where
 inv : typeN h.tree x.id = 3 → x.control = 0 ∧ tasksK h x.id = []
 thr : x.kind = 1 → (x.parent ≠ 1 → kand .i64 (nodeN h.tree x.parent).control 6 = 0) ∧ typeN h.tree x.parent ≠ 3
def ldrK (h : Hierarchy) (x : Task) : Task := (getK h.tasks x.process).getD zK
structure FitsP (h : Hierarchy) : Prop where
 snd : SoundP h
 dom : ∀ x ∈ h.tasks, domN h.tree x.group = domN h.tree (ldrK h x).group
 nod : ∀ x ∈ h.tree.nodes, FitN h x
theorem mem_snoc {α : Type} {P : α → Prop} {pre : List α} {x : α} (h1 : ∀ y ∈ pre, P y) (h2 : P x) : ∀ y ∈ pre ++ [x], P y := by
 intro y hy
 rcases List.mem_append.mp hy with hy | hy
 ·exact h1 y hy
 ·obtain rfl : y = x := by simpa using hy
  exact h2
theorem len_pos_iff {l : List Int} : decide (((l.length : Nat) : Int) > 0) = false ↔ l = [] := by
 rw [decide_eq_false_iff_not]
 constructor
 ·intro h
  exact List.length_eq_zero_iff.mp (by omega)
 ·rintro rfl
  simp
theorem Sound_ref7_iff (h : Hierarchy) : Ok (Sound_ref7 h) (fun b => b = true ↔ SoundP h) := by
 have bad : ¬ SoundP h → Ok (some false) (fun b => b = true ↔ SoundP h) := fun hn => Ok.ret ⟨fun e => by simp at e, fun w => absurd w hn⟩
 unfold Sound_ref7
 refine Ok.bind (Check_ref6_ok h) fun b hb => ?_
 refine Ok.ite (fun c => bad fun s => ?_) fun c => ?_
 ·rw [hb.mpr s.wf] at c
  simp at c
 have w := hb.mp (by simpa using c)
 have l2 := w.tree.len2
 refine Ok.guard (by omega) ?_
 refine Ok.range (fun pre _ => ∀ x ∈ pre, SndN h x) (by simp) ?_ ?_
 ·intro pre x post _ n he hI hn
  have hx : x ∈ h.tree.nodes := by rw [he]; simp
  unfold Sound_ref7L1 Sound_ref7J3
  refine Ok.step (Available_ref7_t w.tree hx) ?_
  refine Ok.ite (fun c => bad fun s => ?_) fun c1 => ?_
  ·rw [(s.snd x hx).av] at c
   simp at c
  have c1 : kandNot .i64 x.control (availN h.tree x) = 0 := by simpa using c1
  refine Ok.ite (fun c2 => ?_) fun c2 => ?_
  ·have c2 : x.id ≠ 1 := by simpa using c2
   refine Ok.ite (fun c3 => ?_) fun c3 => ?_
   ·have c3 : kand .i64 x.control 6 ≠ 0 := by simpa using c3
    refine Ok.step (Tasks_ref6_t w x.id) ?_
    refine Ok.ite (fun c4 => bad fun s => ?_) fun c4 => ?_
    ·rw [(s.snd x hx).busy c2 c3] at c4
     simp at c4
    ·exact hn () (mem_snoc hI ⟨c1, fun _ _ => len_pos_iff.mp c4⟩)
   ·have c3 : kand .i64 x.control 6 = 0 := by simpa using c3
    exact hn () (mem_snoc hI ⟨c1, fun _ h => absurd c3 h⟩)
  ·have c2 : x.id = 1 := by simpa using c2
   exact hn () (mem_snoc hI ⟨c1, fun h => absurd c2 h⟩)
 ·intro _ hI
  exact Ok.ret ⟨fun _ => ⟨w, hI⟩, fun _ => rfl⟩
theorem Sound_control_iff {h : Hierarchy} (r : RawH h) : Ok (Sound_control h) (fun b => b = true ↔ SoundP h) := by
 have bad : ¬ SoundP h → Ok (some false) (fun b => b = true ↔ SoundP h) := fun hn => Ok.ret ⟨fun e => by simp at e, fun w => absurd w hn⟩
 unfold Sound_control
 refine Ok.bind (Check_member_ok h r.m) fun b hb => ?_
 refine Ok.ite (fun c => bad fun s => ?_) fun c => ?_
 ·rw [hb.mpr s.wf] at c
  simp at c
 have w := hb.mp (by simpa using c)
 have l1 := w.len
 have l2 := w.tree.len2
 refine Ok.guard (by omega) ?_
 refine Ok.range (fun pre _ => ∀ x ∈ pre, SndN h x) (by simp) ?_ ?_
 ·intro pre x post _ n he hI hn
  have hx : x ∈ h.tree.nodes := by rw [he]; simp
  unfold Sound_controlL1 Sound_controlJ3
  refine Ok.step (from_control_t w.tree x) ?_
  refine Ok.ite (fun c => bad fun s => ?_) fun c1 => ?_
  ·rw [(s.snd x hx).av] at c
   simp at c
  have c1 : kandNot .i64 x.control (availN h.tree x) = 0 := by simpa using c1
  refine Ok.ite (fun c2 => ?_) fun c2 => ?_
  ·have c2 : x.id ≠ 1 := by simpa using c2
   refine Ok.ite (fun c3 => ?_) fun c3 => ?_
   ·have c3 : kand .i64 x.control 6 ≠ 0 := by simpa using c3
    refine Ok.step (Tasks_crew_t w.sorted (by omega) x.id) ?_
    refine Ok.ite (fun c4 => bad fun s => ?_) fun c4 => ?_
    ·rw [(s.snd x hx).busy c2 c3] at c4
     simp at c4
    ·exact hn () (mem_snoc hI ⟨c1, fun _ _ => len_pos_iff.mp c4⟩)
   ·have c3 : kand .i64 x.control 6 = 0 := by simpa using c3
    exact hn () (mem_snoc hI ⟨c1, fun _ h => absurd c3 h⟩)
  ·have c2 : x.id = 1 := by simpa using c2
   exact hn () (mem_snoc hI ⟨c1, fun h => absurd c2 h⟩)
 ·intro _ hI
  exact Ok.ret ⟨fun _ => ⟨w, hI⟩, fun _ => rfl⟩
theorem nodeN_zero {t : Tree} (w : WfT t) : nodeN t 0 = zN := nodeN_not (has_zero w)
theorem par_id {t : Tree} (w : WfT t) {x : Node} (hx : x ∈ t.nodes) : (nodeN t x.parent).id = x.parent := by
 by_cases h : x.id = 1
 ·rw [(root_node w hx h).1, nodeN_zero w]
  rfl
 ·exact (nodeN_id (has_parent w hx h)).1
theorem Fits_ref8_iff (h : Hierarchy) : Ok (Fits_ref8 h) (fun b => b = true ↔ FitsP h) := by
 have bad : ¬ FitsP h → Ok (some false) (fun b => b = true ↔ FitsP h) := fun hn => Ok.ret ⟨fun e => by simp at e, fun w => absurd w hn⟩
 unfold Fits_ref8
 refine Ok.bind (Sound_ref7_iff h) fun b hb => ?_
 refine Ok.ite (fun c => bad fun s => ?_) fun c => ?_
 ·rw [hb.mpr s.snd] at c
  simp at c
 have snd := hb.mp (by simpa using c)
 have w := snd.wf
 have l1 := w.len
 have l2 := w.tree.len2
 refine Ok.guard (by omega) ?_
 refine Ok.range (fun pre _ => ∀ x ∈ pre, domN h.tree x.group = domN h.tree (ldrK h x).group) (by simp) ?_ ?_
 ·intro pre x post _ n he hI hn
  have hx : x ∈ h.tasks := by rw [he]; simp
  unfold Fits_ref8L1
  refine Ok.step (find6 w x.process) (Ok.step (Domain_ref8_t w.tree _) (Ok.step (Domain_ref8_t w.tree _) ?_))
  refine Ok.ite (fun c => bad fun s => ?_) fun c => ?_
  ·have := s.dom x hx
   unfold ldrK at this
   simp [this] at c
  ·refine hn () (mem_snoc hI ?_)
   unfold ldrK
   simpa using c
 ·intro _ hdom
  unfold Fits_ref8D1
  refine Ok.guard (by omega) ?_
  refine Ok.range (fun pre _ => ∀ x ∈ pre, FitN h x) (by simp) ?_ ?_
  ·intro pre x post _ n he hI hn
   have hx : x ∈ h.tree.nodes := by rw [he]; simp
   have hJ18 : ∀ b : Bool, (b = true → ¬ FitsP h) → (b = false → FitN h x) → Ok (Fits_ref8J18 n b) (fun b => b = true ↔ FitsP h) := by
    intro b b1 b2
    unfold Fits_ref8J18
    exact Ok.ite (fun c => bad (b1 c)) fun c => hn () (mem_snoc hI (b2 c))
   have hpid := par_id w.tree hx
   have hJ17 : ∀ b : Bool, (b = true → ¬ FitsP h) → (b = false → (typeN h.tree x.id = 3 → x.control = 0 ∧ tasksK h x.id = [])) → Ok (Fits_ref8J17 h x n (nodeN h.tree x.parent, hasN h.tree x.parent) b) (fun b => b = true ↔ FitsP h) := by
    intro b b1 b2
    unfold Fits_ref8J17
    refine Ok.ite (fun c => bad (b1 c)) fun c => ?_
    have binv := b2 c
    simp only
    rw [hpid]
    refine Ok.ite (fun c1 => ?_) fun c1 => ?_
    ·have c1 : x.kind = 1 := by simpa using c1
     refine Ok.ite (fun c2 => ?_) fun c2 => ?_
     ·have c2 : x.parent ≠ 1 := by simpa using c2
      refine Ok.ite (fun c3 => ?_) fun c3 => ?_
      ·have c3 : kand .i64 (nodeN h.tree x.parent).control 6 ≠ 0 := by simpa using c3
       exact hJ18 _ (fun _ s => c3 (((s.nod x hx).thr c1).1 c2)) (fun e => by simp at e)
      ·have c3 : kand .i64 (nodeN h.tree x.parent).control 6 = 0 := by simpa using c3
       refine Ok.step (Type_ref8_t w.tree _) (hJ18 _ (fun e s => ((s.nod x hx).thr c1).2 (by simpa using e)) fun e => ⟨binv, fun _ => ⟨fun _ => c3, by simpa using e⟩⟩)
     ·have c2 : x.parent = 1 := by simpa using c2
      refine Ok.step (Type_ref8_t w.tree _) (hJ18 _ (fun e s => ((s.nod x hx).thr c1).2 (by simpa using e)) fun e => ⟨binv, fun _ => ⟨fun q => absurd c2 q, by simpa using e⟩⟩)
    ·have c1 : x.kind ≠ 1 := by simpa using c1
     exact hJ18 _ (fun e => by simp at e) fun _ => ⟨binv, fun q => absurd q c1⟩
   unfold Fits_ref8L4
   refine Ok.step (find5 w.tree _) (Ok.step (Type_ref8_t w.tree _) ?_)
   refine Ok.ite (fun c1 => ?_) fun c1 => ?_
   ·have c1 : typeN h.tree x.id = 3 := by simpa using c1
    refine Ok.ite (fun c2 => ?_) fun c2 => ?_
    ·have c2 : x.control ≠ 0 := by simpa using c2
     exact hJ17 _ (fun _ s => c2 ((s.nod x hx).inv c1).1) fun e => by simp at e
    ·have c2 : x.control = 0 := by simpa using c2
     refine Ok.step (Tasks_ref6_t w _) (hJ17 _ (fun e s => ?_) fun e _ => ⟨c2, len_pos_iff.mp e⟩)
     rw [((s.nod x hx).inv c1).2] at e
     simp at e
   ·have c1 : typeN h.tree x.id ≠ 3 := by simpa using c1
    exact hJ17 _ (fun e => by simp at e) fun _ q => absurd q c1
  ·intro _ hnod
   exact Ok.ret ⟨fun _ => ⟨snd, hdom, hnod⟩, fun _ => rfl⟩
theorem fits_threaded_t {h : Hierarchy} (w : WfH h) {x : Node} (hx : x ∈ h.tree.nodes) : Ok (fits_threaded h x) (fun b => b = true ↔ FitN h x) := by
 have l1 := w.len
 have hself := nodeN_of w.tree hx
 unfold fits_threaded fits_threadedJ1 fits_threadedJ2
 refine Ok.ite (fun c => ?_) fun c => ?_
 ·have c : x.kind ≠ 1 := by simpa using c
  have ht : thrN h.tree x.id = false := by
   unfold thrN
   rw [hself]
   simpa using c
  have hiff : typeN h.tree x.id = 3 ↔ invN h.tree x.id = true := by
   rw [type_inv, has_of hx, ht]
   simp
  have hfit : FitN h x ↔ (invN h.tree x.id = true → x.control = 0 ∧ tasksK h x.id = []) := by
   constructor
   ·intro f e
    exact f.inv (hiff.mpr e)
   ·intro f
    exact ⟨fun e => f (hiff.mp e), fun e => absurd e c⟩
  refine Ok.step (invalid_threaded_t w.tree x.id) ?_
  refine Ok.ite (fun c1 => Ok.ret ?_) fun c1 => ?_
  ·have c1 : invN h.tree x.id = false := by simpa using c1
   rw [hfit, c1]
   simp
  have c1 : invN h.tree x.id = true := by simpa using c1
  refine Ok.ite (fun c2 => ?_) fun c2 => Ok.ret ?_
  ·have c2 : x.control = 0 := by simpa using c2
   refine Ok.step (Tasks_crew_t w.sorted (by omega) x.id) (Ok.ret ?_)
   rw [hfit]
   constructor
   ·intro e _
    refine ⟨c2, List.length_eq_zero_iff.mp ?_⟩
    have : (((tasksK h x.id).length : Nat) : Int) = 0 := by simpa using e
    omega
   ·intro f
    rw [(f c1).2]
    rfl
  ·have c2 : x.control ≠ 0 := by simpa using c2
   rw [hfit]
   constructor
   ·intro e
    simp at e
   ·intro f
    exact absurd (f c1).1 c2
 ·have c : x.kind = 1 := by simpa using c
  have ht : thrN h.tree x.id = true := by
   unfold thrN
   rw [hself]
   simpa using c
  have hni : typeN h.tree x.id ≠ 3 := fun e => by
   have := (type_inv.mp e).2.1
   rw [ht] at this
   simp at this
  have hx1 : x.id ≠ 1 := fun e => by
   have := (root_node w.tree hx e).2
   omega
  have hp := has_parent w.tree hx hx1
  have hfit : FitN h x ↔ ((x.parent ≠ 1 → kand .i64 (nodeN h.tree x.parent).control 6 = 0) ∧ typeN h.tree x.parent ≠ 3) := by
   constructor
   ·intro f
    exact f.thr c
   ·intro f
    exact ⟨fun e => absurd e hni, fun _ => f⟩
  have fin : typeN h.tree x.parent ≠ 3 → ((((x.parent == 1) || (kand .i64 (nodeN h.tree x.parent).control 6 == 0)) = true) ↔ FitN h x) := by
   intro hty
   rw [hfit]
   simp only [Bool.or_eq_true, beq_iff_eq]
   constructor
   ·rintro (e | e)
    ·exact ⟨fun q => absurd e q, hty⟩
    ·exact ⟨fun _ => e, hty⟩
   ·rintro ⟨f, _⟩
    by_cases e : x.parent = 1
    ·exact .inl e
    ·exact .inr (f e)
  refine Ok.step (findF w.tree x.parent) ?_
  simp only
  refine Ok.ite (fun c1 => ?_) fun c1 => ?_
  ·have c1 : thrN h.tree x.parent = false := by
    unfold thrN
    simpa using c1
   refine Ok.step (invalid_threaded_t w.tree x.parent) ?_
   refine Ok.ite (fun c2 => Ok.ret ?_) fun c2 => Ok.ret (fin ?_)
   ·constructor
    ·intro e
     simp at e
    ·intro f
     exact absurd (type_inv.mpr ⟨hp, c1, c2⟩) (hfit.mp f).2
   ·intro e
    rw [(type_inv.mp e).2.2] at c2
    simp at c2
  ·have c1 : thrN h.tree x.parent = true := by
    unfold thrN
    simpa using c1
   refine Ok.ite (fun c2 => by simp at c2) fun _ => Ok.ret (fin fun e => ?_)
   have := (type_inv.mp e).2.1
   rw [c1] at this
   simp at this
theorem imap_get_set {α : Type} (m : IMap α) (k : Int) (v : α) (j : Int) : (m.set k v).get j = if j = k then v else m.get j := rfl
theorem Fits_threaded_iff {h : Hierarchy} (r : RawH h) : Ok (Fits_threaded h) (fun b => b = true ↔ FitsP h) := by
 have bad : ¬ FitsP h → Ok (some false) (fun b => b = true ↔ FitsP h) := fun hn => Ok.ret ⟨fun e => by simp at e, fun w => absurd w hn⟩
 unfold Fits_threaded
 refine Ok.bind (Sound_control_iff r) fun b hb => ?_
 refine Ok.ite (fun c => bad fun s => ?_) fun c => ?_
 ·rw [hb.mpr s.snd] at c
  simp at c
 have snd := hb.mp (by simpa using c)
 have w := snd.wf
 have l1 := w.len
 have l2 := w.tree.len2
 refine Ok.guard (by omega) ?_
 refine Ok.range (fun pre m => ∀ x ∈ pre, x.id = x.process → m.get x.id = domN h.tree x.group) (by simp) ?_ ?_
 ·intro pre x post m n he hI hn
  unfold Fits_threadedL1 Fits_threadedJ3
  refine Ok.ite (fun c => ?_) fun c => ?_
  ·refine Ok.step (domain_threaded_t w.tree x.group) (hn _ ?_)
   intro y hy hyp
   rw [imap_get_set]
   rcases List.mem_append.mp hy with hy | hy
   ·have : y.id ≠ x.id := fun e => by
     have hs := w.sorted
     rw [he, List.pairwise_append] at hs
     have := hs.2.2 y hy x (by simp)
     omega
    rw [if_neg this]
    exact hI y hy hyp
   ·obtain rfl : y = x := by simpa using hy
    rw [if_pos rfl]
  ·have c : ¬ x.id = x.process := by simpa using c
   exact hn _ (mem_snoc hI fun e => absurd e c)
 ·intro m hm
  have hld : ∀ x ∈ h.tasks, m.get x.process = domN h.tree (ldrK h x).group := by
   intro x hx
   obtain ⟨p, q1, q2, q3⟩ := (w.val x hx).ldr
   obtain ⟨hp, hpi⟩ := getK_some q1
   have := hm p hp (by omega)
   unfold ldrK
   rw [q1, ← hpi]
   exact this
  unfold Fits_threadedD1
  refine Ok.guard (by omega) ?_
  refine Ok.range (fun pre _ => ∀ x ∈ pre, domN h.tree x.group = domN h.tree (ldrK h x).group) (by simp) ?_ ?_
  ·intro pre x post _ n he hI hn
   have hx : x ∈ h.tasks := by rw [he]; simp
   unfold Fits_threadedL8
   refine Ok.step (domain_threaded_t w.tree x.group) ?_
   rw [hld x hx]
   refine Ok.ite (fun c => bad fun s => ?_) fun c => hn () (mem_snoc hI (by simpa using c))
   rw [s.dom x hx] at c
   simp at c
  ·intro _ hdom
   unfold Fits_threadedD8
   refine Ok.guard (by omega) ?_
   refine Ok.range (fun pre _ => ∀ x ∈ pre, FitN h x) (by simp) ?_ ?_
   ·intro pre x post _ n he hI hn
    have hx : x ∈ h.tree.nodes := by rw [he]; simp
    unfold Fits_threadedL11
    refine Ok.bind (fits_threaded_t w hx) fun b hb => ?_
    refine Ok.ite (fun c => bad fun s => ?_) fun c => hn () (mem_snoc hI (hb.mp (by simpa using c)))
    rw [hb.mpr (s.nod x hx)] at c
    simp at c
   ·intro _ hnod
    exact Ok.ret ⟨fun _ => ⟨snd, hdom, hnod⟩, fun _ => rfl⟩
theorem Fits_ref8_t {h : Hierarchy} (f : FitsP h) : Fits_ref8 h = some true := by
 obtain ⟨b, hb, e⟩ := Fits_ref8_iff h
 rw [hb, e.mpr f]
theorem Fits_threaded_t {h : Hierarchy} (f : FitsP h) : Fits_threaded h = some true := by
 obtain ⟨b, hb, e⟩ := Fits_threaded_iff f.snd.wf.raw
 rw [hb, e.mpr f]
def admitN (t : Tree) (g : Int) : Int :=
 if !hasN t g then 4 else if typeN t g == 3 then 10 else if (g != 1) && (kand .i64 (nodeN t g).control 6 != 0) then 6 else 0
theorem admits_threaded_t {h : Hierarchy} (w : WfH h) (g : Int) : admits_threaded h g = some (admitN h.tree g) := by
 unfold admits_threaded admitN admits_threadedJ1
 rw [findF w.tree, Option.bind_some]
 cases hg : hasN h.tree g with
 | false => rfl
 | true =>
  simp only [Bool.not_true, Bool.false_eq_true, if_false]
  have ht : ∀ b : Bool, (typeN h.tree g = 3 ↔ b = true) → (typeN h.tree g == 3) = b := by
   intro b hb
   cases b with
   | true => simpa using hb.mpr rfl
   | false =>
    have : typeN h.tree g ≠ 3 := fun e => by simpa using hb.mp e
    simpa using this
  cases hk : thrN h.tree g with
  | true =>
   have hk' : ((nodeN h.tree g).kind != 1) = false := by
    unfold thrN at hk
    simpa using hk
   rw [hk', ht false (by rw [type_inv, hk]; simp)]
   simp only [Bool.false_eq_true, if_false]
   cases (g != 1 && kand .i64 (nodeN h.tree g).control 6 != 0) <;> rfl
  | false =>
   have hk' : ((nodeN h.tree g).kind != 1) = true := by
    unfold thrN at hk
    simpa using hk
   rw [hk', invalid_threaded_t w.tree, ht (invN h.tree g) (by rw [type_inv, hk, hg]; simp)]
   simp only [if_true, Option.bind_some]
   cases invN h.tree g
   ·simp only [Bool.false_eq_true, if_false]
    cases (g != 1 && kand .i64 (nodeN h.tree g).control 6 != 0) <;> rfl
   ·rfl
theorem Admits_ref8_t {h : Hierarchy} (f : FitsP h) (g : Int) : Admits_ref8 h g = some (admitN h.tree g) := by
 have w := f.snd.wf
 unfold Admits_ref8 admitN
 rw [Fits_ref8_t f, Option.bind_some, find5 w.tree, Option.bind_some, Type_ref8_t w.tree]
 cases hasN h.tree g with
 | false => rfl
 | true =>
  simp only [Bool.not_true, Bool.false_eq_true, if_false, Option.bind_some]
  cases (typeN h.tree g == 3)
  ·simp only [Bool.false_eq_true, if_false]
   cases (g != 1 && kand .i64 (nodeN h.tree g).control 6 != 0) <;> rfl
  ·rfl
end Go.Dm

/- Plain theory, part 25: forks that are counted. -/
namespace Go.Dm
def groupK (h : Hierarchy) (k : Int) : Int := ((getK h.tasks k).getD zK).group
theorem placeK_all {h : Hierarchy} {k g : Int} (hk : (getK h.tasks k).isSome = true) (hg : hasN h.tree g = true) : placeK h k g = ({ tree := h.tree, tasks := h.tasks.map (putK k g), next := h.next }, 0) := by
 unfold placeK
 rw [hk, hg]
 rfl
def movedK (p g : Int) (y : Task) : Task := if y.process == p then { id := y.id, process := y.process, group := g, user := y.user } else y
theorem Threads_ref6_t {h : Hierarchy} (w : WfH h) (p : Int) : Threads_ref6 h p = some (threadsK h p) := by
 have := w.len
 unfold Threads_ref6
 rw [Check_ref6_t w]
 simp only [Option.bind_some, Bool.not_true, Bool.false_eq_true, if_false]
 rw [if_pos (by omega)]
 refine (range_collect (p := fun x : Task => x.process == p) (f := fun x : Task => x.id) (r := some) ?_ (fun _ => rfl) (by simp; omega)).trans (by simp [threadsK])
 intro k x s n hs
 unfold Threads_ref6L1 Threads_ref6J3
 rw [if_pos hs]
end Go.Dm

/- Plain theory, part 30: what keeps Fits; all made hierarchies fit. -/
namespace Go.Dm
theorem tasks_nil {h : Hierarchy} {g : Int} : tasksK h g = [] ↔ ∀ x ∈ h.tasks, x.group ≠ g := by
 unfold tasksK
 rw [List.map_eq_nil_iff, List.filter_eq_nil_iff]
 constructor
 ·intro hh x hx e
  exact hh x hx (by simpa using e)
 ·intro hh x hx e
  exact hh x hx (by simpa using e)
theorem admit_zero {t : Tree} {g : Int} (h : admitN t g = 0) : hasN t g = true ∧ typeN t g ≠ 3 ∧ (g ≠ 1 → kand .i64 (nodeN t g).control 6 = 0) := by
 unfold admitN at h
 split at h
 ·simp at h
 split at h
 ·simp at h
 split at h
 ·simp at h
 rename_i h1 h2 h3
 refine ⟨by simpa using h1, by simpa using h2, fun e => ?_⟩
 simp only [Bool.and_eq_true, bne_iff_ne, not_and, Decidable.not_not] at h3
 exact h3 e
theorem fits_tasks {h h' : Hierarchy} (f : FitsP h) (w' : WfH h') (ht : h'.tree = h.tree) (hg : ∀ x ∈ h'.tasks, (∃ y ∈ h.tasks, y.group = x.group) ∨ admitN h.tree x.group = 0)
  (hd : ∀ x ∈ h'.tasks, domN h.tree x.group = domN h.tree (ldrK h' x).group) : FitsP h' := by
 have w := f.snd.wf
 have hk : ∀ x ∈ h.tree.nodes, (typeN h.tree x.id = 3 ∨ (x.id ≠ 1 ∧ kand .i64 x.control 6 ≠ 0)) → tasksK h x.id = [] → tasksK h' x.id = [] := by
  intro x hx hc h0
  rw [tasks_nil] at h0 ⊢
  intro y hy e
  rcases hg y hy with ⟨z, hz, ez⟩ | ha
  ·exact h0 z hz (by omega)
  ·rw [e] at ha
   obtain ⟨_, a2, a3⟩ := admit_zero ha
   rw [nodeN_of w.tree hx] at a3
   rcases hc with hc | ⟨c1, c2⟩
   ·exact a2 hc
   ·exact c2 (a3 c1)
 refine ⟨⟨w', fun x hx => ?_⟩, fun x hx => ?_, fun x hx => ?_⟩
 ·rw [ht] at hx
  have s := f.snd.snd x hx
  exact ⟨by rw [ht]; exact s.av, fun h1 h2 => hk x hx (.inr ⟨h1, h2⟩) (s.busy h1 h2)⟩
 ·rw [ht]
  exact hd x hx
 ·rw [ht] at hx
  have n := f.nod x hx
  refine ⟨fun h3 => ?_, fun h1 => ?_⟩
  ·rw [ht] at h3
   exact ⟨(n.inv h3).1, hk x hx (.inl h3) (n.inv h3).2⟩
  ·rw [ht]
   exact n.thr h1
theorem ldr_some {h : Hierarchy} (w : WfH h) {x : Task} (hx : x ∈ h.tasks) : getK h.tasks x.process = some (ldrK h x) ∧ ldrK h x ∈ h.tasks ∧ (ldrK h x).id = x.process ∧ (ldrK h x).process = x.process := by
 obtain ⟨p, q1, q2, _⟩ := (w.val x hx).ldr
 have e : ldrK h x = p := by
  unfold ldrK
  rw [q1]
  rfl
 rw [e]
 exact ⟨q1, (getK_some q1).1, (getK_some q1).2, q2⟩
theorem addK_shape {h : Hierarchy} {x : Task} {r : Hierarchy × Int × Int} (e : addK h x = r) (hr : r.2.2 = 0) :
  r = ({ tree := h.tree, tasks := h.tasks ++ [{ id := h.next, process := if x.process == 0 then h.next else x.process, group := x.group, user := x.user }], next := h.next + 1 }, h.next, 0) := by
 unfold addK at e
 split at e
 ·subst e; simp at hr
 ·exact e.symm
theorem spawnK_shape {h : Hierarchy} {g u : Int} {r : Hierarchy × Int × Int} (e : spawnK h g u = r) (hr : r.2.2 = 0) :
  r = ({ tree := h.tree, tasks := h.tasks ++ [{ id := h.next, process := h.next, group := g, user := u }], next := h.next + 1 }, h.next, 0) := by
 unfold spawnK at e
 split at e
 ·subst e; simp at hr
 split at e
 ·subst e; simp at hr
 exact addK_shape e hr
theorem ldr_add {h h' : Hierarchy} (w : WfH h) {y : Task} (hk : h'.tasks = h.tasks ++ [y]) {x : Task} (hx : x ∈ h.tasks) : ldrK h' x = ldrK h x := by
 have := (ldr_some w hx).1
 unfold ldrK at this ⊢
 rw [hk, getK_append, this]
 simp
theorem spawn_fits {h : Hierarchy} (f : FitsP h) {g u : Int} (ha : admitN h.tree g = 0) {r : Hierarchy × Int × Int} (e : spawnK h g u = r) (hr : r.2.2 = 0) : FitsP r.1 := by
 have w := f.snd.wf
 have w' := spawnK_wf w e hr
 have s := spawnK_shape e hr
 have ht : r.1.tree = h.tree := by rw [s]
 have hk : r.1.tasks = h.tasks ++ [{ id := h.next, process := h.next, group := g, user := u }] := by rw [s]
 refine fits_tasks f w' ht (fun x hx => ?_) fun x hx => ?_
 ·rw [hk] at hx
  rcases List.mem_append.mp hx with hx | hx
  ·exact .inl ⟨x, hx, rfl⟩
  ·obtain rfl : x = { id := h.next, process := h.next, group := g, user := u } := by simpa using hx
   exact .inr ha
 ·rw [hk] at hx
  rcases List.mem_append.mp hx with hx | hx
  ·rw [ldr_add w hk hx]
   exact f.dom x hx
  ·obtain rfl : x = { id := h.next, process := h.next, group := g, user := u } := by simpa using hx
   have : ldrK r.1 { id := h.next, process := h.next, group := g, user := u } = { id := h.next, process := h.next, group := g, user := u } := by
    unfold ldrK
    rw [hk, getK_append]
    have h0 : getK h.tasks h.next = none := by
     unfold getK
     rw [List.find?_eq_none]
     intro z hz
     have := w.lt z hz
     simp
     omega
    simp only [h0, Option.none_or]
    simp [getK]
   rw [this]
theorem clone_fits {h : Hierarchy} (f : FitsP h) {k : Int} {r : Hierarchy × Int × Int} (e : cloneK h k = r) (hr : r.2.2 = 0) : FitsP r.1 := by
 have w := f.snd.wf
 have w' := cloneK_wf w e hr
 unfold cloneK at e
 cases hk0 : getK h.tasks k with
 | none => rw [hk0] at e; subst e; simp at hr
 | some y =>
  rw [hk0] at e
  have hy := (getK_some hk0).1
  have s := addK_shape e hr
  obtain ⟨l1, l2, l3, l4⟩ := ldr_some w hy
  have hp0 : (y.process == 0) = false := by
   have := (w.val _ l2).pos
   simp
   omega
  rw [hp0] at s
  simp only [Bool.false_eq_true, if_false] at s
  have ht : r.1.tree = h.tree := by rw [s]
  have hk : r.1.tasks = h.tasks ++ [{ id := h.next, process := y.process, group := y.group, user := y.user }] := by rw [s]
  refine fits_tasks f w' ht (fun x hx => ?_) fun x hx => ?_
  ·rw [hk] at hx
   rcases List.mem_append.mp hx with hx | hx
   ·exact .inl ⟨x, hx, rfl⟩
   ·obtain rfl : x = { id := h.next, process := y.process, group := y.group, user := y.user } := by simpa using hx
    exact .inl ⟨y, hy, rfl⟩
  ·rw [hk] at hx
   rcases List.mem_append.mp hx with hx | hx
   ·rw [ldr_add w hk hx]
    exact f.dom x hx
   ·obtain rfl : x = { id := h.next, process := y.process, group := y.group, user := y.user } := by simpa using hx
    have : ldrK r.1 { id := h.next, process := y.process, group := y.group, user := y.user } = ldrK r.1 y := rfl
    rw [this, ldr_add w hk hy]
    exact f.dom y hy
theorem exit_fits {h : Hierarchy} (f : FitsP h) {k : Int} {r : Hierarchy × Int} (e : exitK h k = r) (hr : r.2 = 0) : FitsP r.1 := by
 have w := f.snd.wf
 have w' := exitK_wf w e hr
 unfold exitK at e
 cases hk0 : getK h.tasks k with
 | none => rw [hk0] at e; subst e; simp at hr
 | some y =>
  rw [hk0] at e
  have ht : r.1.tree = h.tree := by rw [← e]; rfl
  have hk : r.1.tasks = h.tasks.filter (fun x => x.id != k && x.process != k) := by rw [← e]; rfl
  have hsub : ∀ x ∈ r.1.tasks, x ∈ h.tasks := fun x hx => by
   rw [hk] at hx
   exact (List.mem_filter.mp hx).1
  refine fits_tasks f w' ht (fun x hx => .inl ⟨x, hsub x hx, rfl⟩) fun x hx => ?_
  have a := ldr_some w' hx
  have b := ldr_some w (hsub x hx)
  have : ldrK r.1 x = ldrK h x := sortedK_inj w.sorted (hsub _ a.2.1) b.2.1 (by rw [a.2.2.1, b.2.2.1])
  rw [this]
  exact f.dom x (hsub x hx)
def attTK (h : Hierarchy) (k g : Int) : Hierarchy × Int :=
 if !((getK h.tasks k).isSome && hasN h.tree g) then (zH, 4) else if admitN h.tree g != 0 then (zH, admitN h.tree g) else if domN h.tree g != domN h.tree (groupK h k) then (zH, 9)
 else ({ tree := h.tree, tasks := h.tasks.map (putK k g), next := h.next }, 0)
theorem AttachThread_ref8_t {h : Hierarchy} (f : FitsP h) (k g : Int) : AttachThread_ref8 h k g = some (attTK h k g) := by
 have w := f.snd.wf
 unfold AttachThread_ref8 attTK
 rw [Fits_ref8_t f, Option.bind_some, if_neg (by simp), find6 w, Option.bind_some]
 cases hk : (getK h.tasks k).isSome with
 | false => rfl
 | true =>
  simp only [Bool.not_true, Bool.false_eq_true, if_false, Bool.true_and]
  rw [Has_ref5_t w.tree, Option.bind_some]
  cases hg : hasN h.tree g with
  | false => rfl
  | true =>
   unfold AttachThread_ref8J1
   simp only [Bool.not_true, Bool.false_eq_true, if_false]
   rw [Admits_ref8_t f, Option.bind_some]
   cases ha : (admitN h.tree g != 0) with
   | true => rfl
   | false =>
    simp only [Bool.false_eq_true, if_false]
    rw [Domain_ref8_t w.tree, Option.bind_some, Domain_ref8_t w.tree, Option.bind_some]
    show (if (domN h.tree g != domN h.tree (groupK h k)) = true then _ else _) = _
    cases hd : (domN h.tree g != domN h.tree (groupK h k)) with
    | true => rfl
    | false =>
     simp only [Bool.false_eq_true, if_false]
     rw [Place_ref6_t w, Option.bind_some, placeK_all hk hg]
theorem attTK_ok {h : Hierarchy} {k g : Int} (e : (attTK h k g).2 = 0) : (getK h.tasks k).isSome = true ∧ hasN h.tree g = true ∧ admitN h.tree g = 0 ∧ domN h.tree g = domN h.tree (groupK h k) ∧ attTK h k g = ({ tree := h.tree, tasks := h.tasks.map (putK k g), next := h.next }, 0) := by
 unfold attTK at e ⊢
 split at e
 ·simp at e
 split at e
 ·rename_i h2
  simp at e h2
  exact absurd e h2
 split at e
 ·simp at e
 rename_i h1 h2 h3
 simp only [Bool.not_eq_true', Bool.and_eq_false_iff, not_or, Bool.not_eq_false] at h1
 simp only [bne_iff_ne, Decidable.not_not] at h2 h3
 refine ⟨h1.1, h1.2, h2, h3, ?_⟩
 rw [h1.1, h1.2, h2, h3]
 simp
theorem ldr_map {h : Hierarchy} {fn : Task → Task} (hf : ∀ y, (fn y).id = y.id ∧ (fn y).process = y.process) (hz : ∀ y ∈ h.tasks, (getK h.tasks y.process).isSome = true) {y : Task} (hy : y ∈ h.tasks) {h' : Hierarchy} (hk : h'.tasks = h.tasks.map fn) : ldrK h' (fn y) = fn (ldrK h y) := by
 unfold ldrK
 rw [hk, (hf y).2, getK_map fun z _ => (hf z).1]
 cases e : getK h.tasks y.process with
 | none =>
  have := hz y hy
  rw [e] at this
  simp at this
 | some p => rfl
theorem attTK_fits {h : Hierarchy} (f : FitsP h) {k g : Int} (e : (attTK h k g).2 = 0) : FitsP (attTK h k g).1 := by
 have w := f.snd.wf
 obtain ⟨h1, h2, h3, h4, h5⟩ := attTK_ok e
 have hp := placeK_all h1 h2
 have w' := placeK_wf w hp rfl
 rw [h5]
 have hdom : ∀ y ∈ h.tasks, domN h.tree (putK k g y).group = domN h.tree y.group := by
  intro y hy
  unfold putK
  split
  ·rename_i ey
   have ey : y.id = k := by simpa using ey
   rw [h4]
   unfold groupK
   rw [← ey, getK_of w.sorted hy]
   rfl
  ·rfl
 refine fits_tasks f w' rfl (fun x hx => ?_) fun x hx => ?_
 ·obtain ⟨y, hy, rfl⟩ := List.mem_map.mp hx
  unfold putK
  split
  ·exact .inr h3
  ·exact .inl ⟨y, hy, rfl⟩
 ·obtain ⟨y, hy, rfl⟩ := List.mem_map.mp hx
  have hl := ldr_some w hy
  rw [ldr_map (h := h) (fun z => ⟨(putK_id k g z).1, (putK_id k g z).2.1⟩) (fun z hz => by rw [(ldr_some w hz).1]; rfl) hy rfl, hdom y hy, hdom _ hl.2.1]
  exact f.dom y hy
def attK (h : Hierarchy) (k g : Int) : Hierarchy × Int :=
 if !((getK h.tasks k).isSome && (((getK h.tasks k).getD zK).process == k) && hasN h.tree g) then (zH, 4) else if typeN h.tree g == 2 then (zH, 10) else if admitN h.tree g != 0 then (zH, admitN h.tree g)
 else ({ tree := h.tree, tasks := h.tasks.map (movedK k g), next := h.next }, 0)
theorem Attach_ref8_t {h : Hierarchy} (f : FitsP h) (k g : Int) : Attach_ref8 h k g = some (attK h k g) := by
 have w := f.snd.wf
 have l1 := w.len
 unfold Attach_ref8 attK
 rw [Fits_ref8_t f, Option.bind_some, if_neg (by simp), find6 w, Option.bind_some]
 cases hk : (getK h.tasks k).isSome with
 | false => rfl
 | true =>
  simp only [Bool.not_true, Bool.false_eq_true, if_false, Bool.true_and]
  cases hp : (((getK h.tasks k).getD zK).process == k) with
  | false =>
   have : (((getK h.tasks k).getD zK).process != k) = true := by simpa using hp
   rw [this]
   rfl
  | true =>
   have : (((getK h.tasks k).getD zK).process != k) = false := by simpa using hp
   rw [this]
   simp only [Bool.false_eq_true, if_false, Bool.true_and]
   rw [Has_ref5_t w.tree, Option.bind_some]
   cases hg : hasN h.tree g with
   | false => rfl
   | true =>
    unfold Attach_ref8J1
    simp only [Bool.not_true, Bool.false_eq_true, if_false]
    rw [Type_ref8_t w.tree, Option.bind_some]
    cases h2 : (typeN h.tree g == 2) with
    | true => rfl
    | false =>
     simp only [Bool.false_eq_true, if_false]
     rw [Admits_ref8_t f, Option.bind_some]
     cases ha : (admitN h.tree g != 0) with
     | true => rfl
     | false =>
      simp only [Bool.false_eq_true, if_false]
      refine Ok.eq ?_
      refine Ok.step (Threads_ref6_t w k) ?_
      have hlen : (threadsK h k).length ≤ h.tasks.length := by
       unfold threadsK
       rw [List.length_map]
       exact List.length_filter_le _ _
      refine Ok.guard (by omega) ?_
      let put : List Int → Task → Task := fun pre y => if pre.contains y.id then { id := y.id, process := y.process, group := g, user := y.user } else y
      have hput : ∀ pre y, (put pre y).id = y.id := fun pre y => by
       show (if pre.contains y.id then _ else _ : Task).id = y.id
       split <;> rfl
      refine Ok.range (fun pre s => WfH s ∧ s = { tree := h.tree, tasks := h.tasks.map (put pre), next := h.next }) ⟨w, ?_⟩ ?_ ?_
      ·have : h.tasks.map (put []) = h.tasks := by
        rw [List.map_congr_left (g := id) fun y _ => by simp [put]]
        simp
       rw [this]
      ·intro pre x post s n he ⟨i1, i2⟩ hn
       unfold Attach_ref8L1
       refine Ok.step (Place_ref6_t i1 x g) (hn _ ?_)
       have hx : (getK s.tasks x).isSome = true := by
        rw [i2]
        simp only
        rw [getK_map fun y _ => hput pre y, Option.isSome_map]
        have : x ∈ threadsK h k := by rw [he]; simp
        unfold threadsK at this
        obtain ⟨y, hy, rfl⟩ := List.mem_map.mp this
        rw [getK_of w.sorted (List.mem_filter.mp hy).1]
        rfl
       have hpl := placeK_all hx (by rw [i2]; exact hg)
       refine ⟨?_, ?_⟩
       ·rw [hpl]
        exact placeK_wf i1 hpl rfl
       ·rw [hpl, i2]
        simp only [List.map_map]
        congr 1
        refine List.map_congr_left fun y _ => ?_
        show putK x g (put pre y) = put (pre ++ [x]) y
        unfold putK
        rw [hput]
        simp only [put]
        by_cases e1 : y.id = x
        ·subst e1
         simp
         split <;> exact ⟨rfl, rfl⟩
        ·have e1' : (y.id == x) = false := by simpa using e1
         rw [e1']
         simp [e1]
      ·rintro s ⟨_, i2⟩
       refine Ok.ret ?_
       rw [i2]
       congr 2
       refine List.map_congr_left fun y hy => ?_
       show put (threadsK h k) y = movedK k g y
       simp only [put, movedK]
       have : (threadsK h k).contains y.id = (y.process == k) := by
        unfold threadsK
        rw [Bool.eq_iff_iff, List.contains_iff_mem, List.mem_map]
        constructor
        ·rintro ⟨z, hz, e⟩
         obtain ⟨hz1, hz2⟩ := List.mem_filter.mp hz
         rw [← sortedK_inj w.sorted hz1 hy e]
         exact hz2
        ·intro e
         exact ⟨y, List.mem_filter.mpr ⟨hy, e⟩, rfl⟩
       rw [this]
section
variable {t t' : Tree} {fn : Node → Node}
theorem getN_map (hn : t'.nodes = t.nodes.map fn) (hf : ∀ y ∈ t.nodes, (fn y).id = y.id) (a : Int) : getN t' a = (getN t a).map fn := by
 unfold getN
 rw [hn]
 have : ∀ L : List Node, (∀ y ∈ L, (fn y).id = y.id) → (L.map fn).find? (fun x => x.id == a) = (L.find? (fun x => x.id == a)).map fn := by
  intro L
  induction L with
  | nil => intro _; rfl
  | cons b r ih =>
   intro hL
   rw [List.map_cons, List.find?_cons, List.find?_cons, hL b (by simp)]
   cases (b.id == a)
   ·exact ih fun y hy => hL y (by simp [hy])
   ·rfl
 exact this _ hf
structure Alike (t t' : Tree) (fn : Node → Node) : Prop where
 nodes : t'.nodes = t.nodes.map fn
 id : ∀ y ∈ t.nodes, (fn y).id = y.id
 par : ∀ y ∈ t.nodes, (fn y).parent = y.parent
 con : ∀ y ∈ t.nodes, (fn y).control = y.control
 kind : ∀ y ∈ t.nodes, (fn y).kind = y.kind
theorem Alike.has (h : Alike t t' fn) (a : Int) : hasN t' a = hasN t a := by
 unfold hasN
 rw [getN_map h.nodes h.id]
 simp
theorem Alike.node (h : Alike t t' fn) (a : Int) : (nodeN t' a).control = (nodeN t a).control ∧ (nodeN t' a).kind = (nodeN t a).kind ∧ (nodeN t' a).parent = (nodeN t a).parent := by
 unfold nodeN
 rw [getN_map h.nodes h.id]
 cases e : getN t a with
 | none => exact ⟨rfl, rfl, rfl⟩
 | some y =>
  have hy := (getN_some e).1
  exact ⟨h.con y hy, h.kind y hy, h.par y hy⟩
theorem Alike.thr (h : Alike t t' fn) : thrN t' = thrN t := by
 funext a
 unfold thrN
 rw [(h.node a).2.1]
theorem Alike.up (h : Alike t t' fn) (a : Int) : upT t' a = upT t a := by
 unfold upT
 rw [h.nodes, ← List.map_reverse]
 exact upR_map fun y hy => ⟨h.id y (by simpa using hy), h.par y (by simpa using hy)⟩
theorem Alike.kids (h : Alike t t' fn) (a : Int) : kidsN t' a = kidsN t a := by
 unfold kidsN
 rw [h.nodes, List.filter_map, List.map_map]
 have e1 : t.nodes.filter ((fun x => x.parent == a) ∘ fn) = t.nodes.filter (fun x => x.parent == a) := List.filter_congr fun y hy => by simp [h.par y hy]
 rw [e1]
 exact List.map_congr_left fun y hy => h.id y (List.mem_filter.mp hy).1
theorem Alike.dom (h : Alike t t' fn) (a : Int) : domN t' a = domN t a := by
 unfold domN
 rw [h.up, h.thr]
theorem Alike.inv (h : Alike t t' fn) (a : Int) : invN t' a = invN t a := by
 unfold invN
 rw [h.up, h.thr]
theorem Alike.type (h : Alike t t' fn) (a : Int) : typeN t' a = typeN t a := by
 unfold typeN
 rw [h.has, h.inv, h.kids, h.thr]
theorem fits_alike {h h' : Hierarchy} (f : FitsP h) (w' : WfH h') (a : Alike h.tree h'.tree fn) (ht : h'.tasks = h.tasks) : FitsP h' := by
 have hk : ∀ g, tasksK h' g = tasksK h g := fun g => by
  unfold tasksK
  rw [ht]
 have hl : ∀ x, ldrK h' x = ldrK h x := fun x => by
  unfold ldrK
  rw [ht]
 refine ⟨⟨w', fun x hx => ?_⟩, fun x hx => ?_, fun x hx => ?_⟩
 ·rw [a.nodes] at hx
  obtain ⟨y, hy, rfl⟩ := List.mem_map.mp hx
  have s := f.snd.snd y hy
  have e1 : availN h'.tree (fn y) = availN h.tree y := by
   unfold availN topN
   rw [a.kind y hy, a.id y hy, a.par y hy, (a.node y.parent).1]
  refine ⟨?_, fun h1 h2 => ?_⟩
  ·rw [e1, a.con y hy]
   exact s.av
  ·rw [hk, a.id y hy]
   rw [a.id y hy] at h1
   rw [a.con y hy] at h2
   exact s.busy h1 h2
 ·rw [ht] at hx
  rw [a.dom, a.dom, hl]
  exact f.dom x hx
 ·rw [a.nodes] at hx
  obtain ⟨y, hy, rfl⟩ := List.mem_map.mp hx
  have n := f.nod y hy
  refine ⟨fun h3 => ?_, fun h1 => ?_⟩
  ·rw [a.id y hy, a.type] at h3
   rw [a.con y hy, a.id y hy, hk]
   exact n.inv h3
  ·rw [a.kind y hy] at h1
   rw [a.par y hy, a.type, (a.node y.parent).1]
   exact n.thr h1
end
theorem own_fits {h : Hierarchy} (f : FitsP h) {x : Node} (hx : x ∈ h.tree.nodes) {u : Int} (u0 : 0 ≤ u) (u1 : u ≤ 1048576) : FitsP (withN h (ownN x u)) := by
 have w := f.snd.wf
 have hs : ∀ y ∈ h.tree.nodes, setN (ownN x u) y = if y.id == x.id then ownN y u else y := fun y hy => by
  unfold setN
  have : (ownN x u).id = x.id := rfl
  rw [this]
  split
  ·rename_i e
   rw [sorted_inj w.tree.sorted hy hx (by simpa using e)]
  ·rfl
 refine fits_alike (fn := setN (ownN x u)) f (withN_own_wf w hx u0 u1) ⟨rfl, ?_, ?_, ?_, ?_⟩ rfl
 all_goals
  intro y hy
  rw [hs y hy]
  split <;> rfl
section
variable {t t' : Tree} {p : Int} {s : ByteArray}
structure Grown (t t' : Tree) (p : Int) (s : ByteArray) : Prop where
 nodes : t'.nodes = t.nodes ++ [{ id := t.next, parent := p, name := s, control := 0, kind := 0, owner := 0 }]
 next : t'.next = t.next + 1
 par : hasN t p = true
 wf : WfT t
 wf' : WfT t'
 room : (upT t p).length < 9
 fresh : ∀ x ∈ t.nodes, x.parent = p → beqS x.name s = false
theorem addT_grown (w : WfT t) {r : Tree × Int × Int} (e : addT t p s = r) (hr : r.2.2 = 0) : Grown t r.1 p s ∧ r.2.1 = t.next := by
 have wf' := addT_wf w e hr
 unfold addT at e
 split at e
 ·subst e; simp at hr
 split at e
 ·subst e; simp at hr
 split at e
 ·subst e; simp at hr
 split at e
 ·subst e; simp at hr
 rename_i h1 h2 h3 h4
 subst e
 simp only [Bool.or_eq_true, decide_eq_true_eq, not_or] at h4
 refine ⟨⟨rfl, rfl, by simpa using h2, w, wf', by omega, fun x hx e => ?_⟩, rfl⟩
 cases hb : beqS x.name s
 ·rfl
 ·exact absurd (List.any_eq_true.mpr ⟨x, hx, by simp [e, hb]⟩) h3
theorem Grown.lt (g : Grown t t' p s) : ∀ x ∈ t.nodes, x.id < t.next := g.wf.next
theorem Grown.get (g : Grown t t' p s) {a : Int} (h : a ≠ t.next) : getN t' a = getN t a := by
 unfold getN
 rw [g.nodes, List.find?_append]
 have : ([{ id := t.next, parent := p, name := s, control := 0, kind := 0, owner := 0 }] : List Node).find? (fun x => x.id == a) = none := by
  simp
  omega
 rw [this, Option.or_none]
theorem Grown.getNone (g : Grown t t' p s) : getN t t.next = none := by
 unfold getN
 rw [List.find?_eq_none]
 intro x hx
 have := g.lt x hx
 simp
 omega
theorem Grown.getNew (g : Grown t t' p s) : getN t' t.next = some { id := t.next, parent := p, name := s, control := 0, kind := 0, owner := 0 } := by
 have := g.getNone
 unfold getN at this ⊢
 rw [g.nodes, List.find?_append, this]
 simp
theorem Grown.has (g : Grown t t' p s) {a : Int} (h : a ≠ t.next) : hasN t' a = hasN t a := by
 unfold hasN
 rw [g.get h]
theorem Grown.node (g : Grown t t' p s) (a : Int) : (nodeN t' a).control = (nodeN t a).control ∧ (nodeN t' a).kind = (nodeN t a).kind := by
 unfold nodeN
 by_cases h : a = t.next
 ·subst h
  rw [g.getNew, g.getNone]
  exact ⟨rfl, rfl⟩
 ·rw [g.get h]
  exact ⟨rfl, rfl⟩
theorem Grown.thr (g : Grown t t' p s) : thrN t' = thrN t := by
 funext a
 unfold thrN
 rw [(g.node a).2]
theorem Grown.up (g : Grown t t' p s) {a : Int} (h : a ≠ t.next) : upT t' a = upT t a := by
 unfold upT
 rw [g.nodes]
 exact upT_snoc_old (fun e => h e.symm)
theorem Grown.dom (g : Grown t t' p s) {a : Int} (h : a ≠ t.next) : domN t' a = domN t a := by
 unfold domN
 rw [g.up h, g.thr]
theorem Grown.thrNew (g : Grown t t' p s) : thrN t t.next = false := by
 unfold thrN nodeN
 rw [g.getNone]
 rfl
theorem Grown.type (g : Grown t t' p s) {a : Int} (h : a ≠ t.next) : typeN t' a = typeN t a := by
 have hk : (kidsN t' a).any (thrN t) = (kidsN t a).any (thrN t) := by
  unfold kidsN
  rw [g.nodes, List.filter_append, List.map_append, List.any_append]
  have : ((([{ id := t.next, parent := p, name := s, control := 0, kind := 0, owner := 0 }] : List Node).filter (fun x => x.parent == a)).map (·.id)).any (thrN t) = false := by
   rw [List.filter_cons]
   split
   ·simp [g.thrNew]
   ·simp
  rw [this, Bool.or_false]
 unfold typeN invN
 rw [g.has h, g.up h, g.thr, hk]
end
theorem Enable_ref8_fits (h : Hierarchy) (id a d : Int) : Ok (Enable_ref8 h id a d) (fun r => r.2 = 0 → FitsP r.1) := by
 unfold Enable_ref8
 have bad : ∀ (x : Hierarchy) (n : Int), n ≠ 0 → Ok (some (x, n)) (fun r : Hierarchy × Int => r.2 = 0 → FitsP r.1) := fun x n hn => Ok.ret fun e => absurd e hn
 refine Ok.bind (Fits_ref8_iff h) fun _ _ => Ok.ite (fun _ => bad _ _ (by decide)) fun _ => ?_
 refine Ok.bind (Write_ref7_tot _ _ _ _) fun r _ => Ok.ite (fun c => bad _ _ (by simpa using c)) fun _ => ?_
 refine Ok.bind (Fits_ref8_iff r.1) fun b hb => Ok.ite (fun _ => bad _ _ (by decide)) fun c => ?_
 exact Ok.ret fun _ => hb.mp (by simpa using c)
theorem Convert_ref8_fits (h : Hierarchy) (id : Int) : Ok (Convert_ref8 h id) (fun r => r.2 = 0 → FitsP r.1) := by
 unfold Convert_ref8
 have bad : ∀ (x : Hierarchy) (n : Int), n ≠ 0 → Ok (some (x, n)) (fun r : Hierarchy × Int => r.2 = 0 → FitsP r.1) := fun x n hn => Ok.ret fun e => absurd e hn
 refine Ok.bind (Fits_ref8_ok h) fun b hb => Ok.ite (fun _ => bad _ _ (by decide)) fun c => ?_
 have w : WfH h := hb (by simpa using c)
 have := w.len
 have := w.tree.len2
 have hJ : ∀ r b, Ok (Convert_ref8J1 h id r b) (fun r => r.2 = 0 → FitsP r.1) := fun r b => by
  unfold Convert_ref8J1
  refine Ok.ite (fun _ => bad _ _ (by decide)) fun _ => Ok.ite (fun _ => bad _ _ (by decide)) fun _ => ?_
  refine Ok.step (Copy_ref6_eq h (by omega) (by omega)) (Ok.step (Set_ref5_eq h.tree _ (by omega)) ?_)
  refine Ok.bind (Tasks_ref6_tot _ _) fun _ _ => ?_
  unfold Convert_ref8J2
  refine Ok.ite (fun _ => bad _ _ (by decide)) fun _ => ?_
  refine Ok.bind (Fits_ref8_iff _) fun b hb => Ok.ite (fun _ => bad _ _ (by decide)) fun c => ?_
  exact Ok.ret fun _ => hb.mp (by simpa using c)
 refine Ok.bind (Find_ref5_tot _ _) fun _ _ => Ok.ite (fun _ => bad _ _ (by decide)) fun _ => Ok.ite (fun _ => bad _ _ (by decide)) fun _ => ?_
 refine Ok.bind (Find_ref5_tot _ _) fun _ _ => Ok.bind (Type_ref8_tot _ _) fun _ _ => Ok.ite (fun _ => hJ _ _) fun _ => Ok.ite (fun _ => hJ _ _) fun _ => hJ _ _
theorem fits_inv (n m : Int) : HInv n m (fun _ h => FitsP h) (fun _ h => FitsP h) := by
 refine ⟨?_, ?_, ?_, ?_, ?_, ?_, ?_, ?_, ?_, ?_⟩
 ·intro h g a r c w s e hr
  exact ok_at (Enable_ref8_fits h g a 0) e hr
 ·intro h g r c w s e hr
  exact ok_at (Convert_ref8_fits h g) e hr
 ·intro h x u c w s hx _ u0 u1
  exact own_fits s hx u0 (by omega)
 ·intro c h w c0 s
  exact s
 ·intro c h g u r w c0 s ha _ _ e hr
  rw [Admits_ref8_t s] at ha
  exact spawn_fits s (Option.some.inj ha) e hr
 ·intro c h w c0 s
  exact s
 ·intro c h w c0 s
  exact s
 ·intro c h k r w c0 s e hr
  exact clone_fits s e hr
 ·intro c h k g r w c0 s e hr
  rw [AttachThread_ref8_t s] at e
  have e := Option.some.inj e
  rw [← e] at hr ⊢
  exact attTK_fits s hr
 ·intro c h k r w c0 s e hr
  exact exit_fits s e hr
theorem plain_fits {t : Tree} (w : WfT t) (h : ∀ x ∈ t.nodes, x.control = 0 ∧ x.kind = 0) : FitsP { tree := t, tasks := [], next := 1 } := by
 have w' : WfH { tree := t, tasks := [], next := 1 } := ⟨w, by simp, by simp, by simp, by simp, by simp, by simp⟩
 refine ⟨⟨w', fun x hx => ?_⟩, fun x hx => ?_, fun x hx => ?_⟩
 ·have hc := (h x hx).1
  refine ⟨?_, fun _ _ => rfl⟩
  rw [hc]
  simp [kandNot]
  rfl
 ·simp at hx
 ·refine ⟨fun _ => ⟨(h x hx).1, rfl⟩, fun h1 => ?_⟩
  rw [(h x hx).2] at h1
  simp at h1
theorem Hierarchy_fits {d : Dice} (hd : DiceOk d) (n m : Int) (n0 : 0 ≤ n) (n1 : n ≤ 100) (m0 : 0 ≤ m) (m1 : m ≤ 100) : Ok (Hierarchy_Dice_made d n m) (fun r => WfH r.1 ∧ DiceOk r.2 ∧ FitsP r.1) := by
 refine Hierarchy_inv (fits_inv n m) hd n0 n1 m0 m1 fun c c0 c1 => ?_
 refine (Tree_inv hd n n0 (by omega) (fun _ t => WfT t → ∀ x ∈ t.nodes, x.control = 0 ∧ x.kind = 0) ?_ ?_ ?_ ?_).mono fun r ⟨a, b, s⟩ => ⟨a, b, plain_fits a (s a)⟩
 ·intro c _ _ _ x hx
  obtain rfl : x = { id := 1, parent := 0, name := ByteArray.empty, control := 0, kind := 0, owner := 0 } := by simpa [newT] using hx
  exact ⟨rfl, rfl⟩
 ·intro c t _ _ s
  exact s
 ·intro c t p s r w _ hp _ e hr _ x hx
  have g := (addT_grown w e hr).1
  rw [g.nodes] at hx
  rcases List.mem_append.mp hx with hx | hx
  ·exact hp w x hx
  ·obtain rfl : x = { id := t.next, parent := p, name := s, control := 0, kind := 0, owner := 0 } := by simpa using hx
   exact ⟨rfl, rfl⟩
 ·intro c t id r w _ hp e hr _ x hx
  refine hp w x ?_
  unfold removeT at e
  split at e
  ·subst e; simp at hr
  split at e
  ·subst e; simp at hr
  split at e
  ·subst e; simp at hr
  ·subst e
   exact (List.mem_filter.mp hx).1
end Go.Dm

/- Models of Go types and functions, printed by a program. -/
namespace Go.Dm
set_option linter.unusedVariables false
structure Protection where
 group : Int
 min : Int
 low : Int
 deriving Inhabited
structure Charge where
 group : Int
 own : Int
 deriving Inhabited
structure Counter where
 charges : List Charge
 deriving Inhabited
end Go.Dm

/- Models of Go types and functions, printed by a program. -/
namespace Go.Dm
set_option linter.unusedVariables false
def AddFa_tree (p0 : Int) : Option (Tree × Int × Int) := (some (({ nodes := [], next := 0 } : Tree), 0, p0))
def child_treeL1 (p1 : Int) (p2 : ByteArray) (k1 : Nat) (x1 : Node) (s1 : Unit) (n1 : Unit → Option Int) : Option Int := (if ((x1.parent == p1) && (beqS x1.name p2)) then (some x1.id) else (n1 ()))
def child_treeD1 (s1 : Unit) : Option Int := (some 0)
def child_tree (p0 : Tree) (p1 : Int) (p2 : ByteArray) : Option Int := (if p0.nodes.length ≤ 1073741824 then rangeL (child_treeL1 p1 p2) child_treeD1 p0.nodes 0 () else none)
def checked_tree (p0 : Tree) : Option Tree := (Option.bind (Check_tree p0) fun r1 => (if (!r1) then (some ({ nodes := [], next := 0 } : Tree)) else (some p0)))
def Ancestors_tree (p0 : Tree) (p1 : Int) : Option (List Int) := (Option.bind (checked_tree p0) fun r1 => (Option.bind (Ancestors_forest r1 p1) fun r2 => (some r2)))
def Depth_tree (p0 : Tree) (p1 : Int) : Option Int := (Option.bind (Ancestors_tree p0 p1) fun r1 => (some (w64 (((r1.length : Nat) : Int) - 1))))
def Add_treeJ2 (p0 : Tree) (p1 : Int) (p2 : ByteArray) (y2 : Bool) : Option (Tree × Int × Int) := (if y2 then (Option.bind (AddFa_tree 7) fun r16 => (some (r16.1, r16.2.1, r16.2.2))) else (Option.bind (copied_tree p0) fun r17 => (if r17.nodes.length + 1 ≤ 1073741824 then (some (({ nodes := (r17.nodes ++ [({ id := p0.next, parent := p1, name := p2, control := 0, kind := 0, owner := 0 } : Node)]), next := (w64 (r17.next + 1)) } : Tree), p0.next, 0)) else none)))
def Add_treeJ1 (p0 : Tree) (p1 : Int) (p2 : ByteArray) (y1 : Bool) : Option (Tree × Int × Int) := (if y1 then (Option.bind (AddFa_tree 1) fun r5 => (some (r5.1, r5.2.1, r5.2.2))) else (Option.bind (At_forest p0 p1) fun r6 => (if (decide (r6 < 0)) then (Option.bind (AddFa_tree 4) fun r8 => (some (r8.1, r8.2.1, r8.2.2))) else (Option.bind (child_tree p0 p1 p2) fun r9 => (if (r9 != 0) then (Option.bind (AddFa_tree 5) fun r11 => (some (r11.1, r11.2.1, r11.2.2))) else (Option.bind (Depth_tree p0 p1) fun r12 => (if (decide (r12 ≥ 8)) then ((Add_treeJ2 p0 p1 p2) true) else (if (decide (((p0.nodes.length : Nat) : Int) ≥ 64)) then ((Add_treeJ2 p0 p1 p2) true) else ((Add_treeJ2 p0 p1 p2) (decide (p0.next > 2147483647)))))))))))
def Add_tree (p0 : Tree) (p1 : Int) (p2 : ByteArray) : Option (Tree × Int × Int) := (Option.bind (Check_tree p0) fun r1 => (if (!r1) then ((Add_treeJ1 p0 p1 p2) true) else (Option.bind (Valid_name p2) fun r3 => ((Add_treeJ1 p0 p1 p2) (!r3)))))
def Create_threaded (p0 : Hierarchy) (p1 : Int) (p2 : ByteArray) : Option (Hierarchy × Int × Int) := (Option.bind (Fits_threaded p0) fun r1 => (if (!r1) then (some (({ tree := ({ nodes := [], next := 0 } : Tree), tasks := [], next := 0 } : Hierarchy), 0, 1)) else (Option.bind (Add_tree p0.tree p1 p2) fun r3 => (if (r3.2.2 != 0) then (some (({ tree := ({ nodes := [], next := 0 } : Tree), tasks := [], next := 0 } : Hierarchy), 0, r3.2.2)) else (Option.bind (Copy_crew p0) fun r5 => (some (({ tree := r3.1, tasks := r5.tasks, next := r5.next } : Hierarchy), r3.2.1, 0)))))))
def refuse_threaded (p0 : Int) : Option (Hierarchy × Int) := (some (({ tree := ({ nodes := [], next := 0 } : Tree), tasks := [], next := 0 } : Hierarchy), p0))
def Attach_threadedJ3 (n1 : (List Task) → Option (Hierarchy × Int)) (y3 : List Task) : Option (Hierarchy × Int) := (n1 y3)
def Attach_threadedL1 (p1 : Int) (p2 : Int) (k1 : Int) (s1 : List Task) (n1 : (List Task) → Option (Hierarchy × Int)) : Option (Hierarchy × Int) := (if 0 ≤ k1 ∧ k1 < ((s1.length : Nat) : Int) then (if (Int.toNat k1) < s1.length then (if ((s1.getD (Int.toNat k1) (default : Task)).process == p1) then (if 0 ≤ k1 ∧ k1 < ((s1.length : Nat) : Int) then (if (Int.toNat k1) < s1.length then ((Attach_threadedJ3 n1) (s1.set (Int.toNat k1) ({ id := (s1.getD (Int.toNat k1) (default : Task)).id, process := (s1.getD (Int.toNat k1) (default : Task)).process, group := p2, user := (s1.getD (Int.toNat k1) (default : Task)).user } : Task))) else none) else none) else ((Attach_threadedJ3 n1) s1)) else none) else none)
def Attach_threadedD1 (r15 : Hierarchy) (s1 : List Task) : Option (Hierarchy × Int) := (some (({ tree := r15.tree, tasks := s1, next := r15.next } : Hierarchy), 0))
def Attach_threaded (p0 : Hierarchy) (p1 : Int) (p2 : Int) : Option (Hierarchy × Int) := (Option.bind (Fits_threaded p0) fun r1 => (if (!r1) then (Option.bind (refuse_threaded 1) fun r3 => (some (r3.1, r3.2))) else (Option.bind (Find_crew p0 p1) fun r4 => (Option.bind (Find_forest p0.tree p2) fun r5 => (if (((!r4.2) || (r4.1.process != p1)) || (!r5.2)) then (Option.bind (refuse_threaded 4) fun r9 => (some (r9.1, r9.2))) else (if (r5.1.kind == 1) then (Option.bind (refuse_threaded 10) fun r11 => (some (r11.1, r11.2))) else (Option.bind (admits_threaded p0 p2) fun r12 => (if (r12 != 0) then (Option.bind (refuse_threaded r12) fun r14 => (some (r14.1, r14.2))) else (Option.bind (Copy_crew p0) fun r15 => (if r15.tasks.length ≤ 1073741824 then (forO (Attach_threadedL1 p1 p2) (Attach_threadedD1 r15) (Int.toNat (((r15.tasks.length : Nat) : Int) - 0)) 0 r15.tasks) else none))))))))))
def user_delegate (p0 : Int) : Option Bool := (some ((decide (p0 ≥ 0)) && (decide (p0 ≤ 1048576))))
def ownsFa_delegate (p0 : Int) (p1 : Tree) (p2 : Int) : Option Bool := (Option.bind (Find_forest p1 p0) fun r1 => (some (r1.1.owner == p2)))
def IndexFunc_slices_intQownsFa_delegateL1 (p1c0 : Tree) (p1c1 : Int) (k1 : Nat) (x1 : Int) (s1 : Unit) (n1 : Unit → Option Int) : Option Int := (Option.bind (ownsFa_delegate x1 p1c0 p1c1) fun r10 => (if r10 then (some ((k1 : Nat) : Int)) else (n1 ())))
def IndexFunc_slices_intQownsFa_delegateD1 (s1 : Unit) : Option Int := (some (-1))
def IndexFunc_slices_intQownsFa_delegate (p0 : List Int) (p1c0 : Tree) (p1c1 : Int) : Option Int := (if p0.length ≤ 1073741824 then rangeL (IndexFunc_slices_intQownsFa_delegateL1 p1c0 p1c1) IndexFunc_slices_intQownsFa_delegateD1 p0 0 () else none)
def ContainsFunc_slices_intQownsFa_delegate (p0 : List Int) (p1c0 : Tree) (p1c1 : Int) : Option Bool := (Option.bind (IndexFunc_slices_intQownsFa_delegate p0 p1c0 p1c1) fun r1 => (some (decide (r1 ≥ 0))))
def owns_delegate (p0 : Tree) (p1 : Int) (p2 : List Int) : Option Bool := (Option.bind (ContainsFunc_slices_intQownsFa_delegate p2 p0 p1) fun r1 => (some r1))
def full_delegateJ1 (y1 : Bool) : Option Bool := (some y1)
def full_delegate (p0 : Tree) (p1 : Int) (p2 : Int) : Option Bool := (Option.bind (Ancestors_forest p0 p2) fun r1 => (Option.bind (user_delegate p1) fun r2 => (if r2 then (if (decide (((r1.length : Nat) : Int) > 0)) then (if (p1 == 0) then (full_delegateJ1 true) else (if 1 ≤ r1.length then (Option.bind (owns_delegate p0 p1 ((r1.drop 1).take (subN r1.length 1))) fun r7 => (full_delegateJ1 r7)) else none)) else (full_delegateJ1 false)) else (full_delegateJ1 false))))
def Grant_delegateJ1 (p0 : Tree) (p1 : Int) (p2 : Int) (p3 : Int) (r1 : Int) (y1 : Bool) : Option (Tree × Int) := (if y1 then (some (({ nodes := [], next := 0 } : Tree), 1)) else (if (decide (r1 < 0)) then (some (({ nodes := [], next := 0 } : Tree), 4)) else (if (p2 == 1) then (some (({ nodes := [], next := 0 } : Tree), 9)) else (Option.bind (full_delegate p0 p1 p2) fun r10 => (if (!r10) then (some (({ nodes := [], next := 0 } : Tree), 8)) else (Option.bind (Clone_slices_Node p0.nodes) fun r12 => (if 0 ≤ r1 ∧ r1 < ((r12.length : Nat) : Int) then (if (Int.toNat r1) < r12.length then (some (({ nodes := (r12.set (Int.toNat r1) ({ id := (r12.getD (Int.toNat r1) (default : Node)).id, parent := (r12.getD (Int.toNat r1) (default : Node)).parent, name := (r12.getD (Int.toNat r1) (default : Node)).name, control := (r12.getD (Int.toNat r1) (default : Node)).control, kind := (r12.getD (Int.toNat r1) (default : Node)).kind, owner := p3 } : Node)), next := p0.next } : Tree), 0)) else none) else none)))))))
def Grant_delegate (p0 : Tree) (p1 : Int) (p2 : Int) (p3 : Int) : Option (Tree × Int) := (Option.bind (At_forest p0 p2) fun r1 => (Option.bind (Check_tree p0) fun r2 => (if (!r2) then ((Grant_delegateJ1 p0 p1 p2 p3 r1) true) else (Option.bind (user_delegate p1) fun r4 => (if (!r4) then ((Grant_delegateJ1 p0 p1 p2 p3 r1) true) else (Option.bind (user_delegate p3) fun r6 => ((Grant_delegateJ1 p0 p1 p2 p3 r1) (!r6))))))))
def enter_delegateJ1 (y1 : Bool) : Option Bool := (some y1)
def enter_delegate (p0 : Tree) (p1 : Int) (p2 : Int) : Option Bool := (Option.bind (full_delegate p0 p1 p2) fun r1 => (if r1 then (enter_delegateJ1 true) else (Option.bind (user_delegate p1) fun r3 => (if r3 then (if (p1 != 0) then (Option.bind (Ancestors_forest p0 p2) fun r6 => (Option.bind (owns_delegate p0 p1 r6) fun r7 => (enter_delegateJ1 r7))) else (enter_delegateJ1 false)) else (enter_delegateJ1 false)))))
def may_delegateQenter_delegateJ1 (p0 : Hierarchy) (p1 : Int) (p2 : Int) (y1 : Bool) : Option Int := (if y1 then (some 1) else (Option.bind (At_forest p0.tree p2) fun r5 => (if (decide (r5 < 0)) then (some 4) else (Option.bind (enter_delegate p0.tree p1 p2) fun r7 => (if (!r7) then (some 8) else (some 0))))))
def may_delegateQenter_delegate (p0 : Hierarchy) (p1 : Int) (p2 : Int) : Option Int := (Option.bind (user_delegate p1) fun r1 => (if (!r1) then ((may_delegateQenter_delegateJ1 p0 p1 p2) true) else (Option.bind (Fits_threaded p0) fun r3 => ((may_delegateQenter_delegateJ1 p0 p1 p2) (!r3)))))
def Create_delegate (p0 : Hierarchy) (p1 : Int) (p2 : Int) (p3 : ByteArray) : Option (Hierarchy × Int × Int) := (Option.bind (may_delegateQenter_delegate p0 p1 p2) fun r1 => (if (r1 != 0) then (some (({ tree := ({ nodes := [], next := 0 } : Tree), tasks := [], next := 0 } : Hierarchy), 0, r1)) else (Option.bind (Create_threaded p0 p2 p3) fun r3 => (some (r3.1, r3.2.1, r3.2.2)))))
def refuse_delegate (p0 : Int) : Option (Hierarchy × Int) := (some (({ tree := ({ nodes := [], next := 0 } : Tree), tasks := [], next := 0 } : Hierarchy), p0))
def Common_forestL1 (r1 : List Int) (k1 : Nat) (x1 : Int) (s1 : Unit) (n1 : Unit → Option (Int × Bool)) : Option (Int × Bool) := (Option.bind (Contains_slices_int r1 x1) fun r14 => (if r14 then (some (x1, true)) else (n1 ())))
def Common_forestD1 (s1 : Unit) : Option (Int × Bool) := (some (0, false))
def Common_forest (p0 : Tree) (p1 : Int) (p2 : Int) : Option (Int × Bool) := (Option.bind (Ancestors_forest p0 p2) fun r1 => (Option.bind (Ancestors_forest p0 p1) fun r2 => (if r2.length ≤ 1073741824 then rangeL (Common_forestL1 r1) Common_forestD1 r2 0 () else none)))
def moves_delegateJ3 (n1 : Unit → Option Int) (y3 : Bool) : Option Int := (if y3 then (some 8) else (n1 ()))
def moves_delegateL1 (p0 : Hierarchy) (p1 : Int) (p2 : Int) (k1 : Nat) (x1 : Int) (s1 : Unit) (n1 : Unit → Option Int) : Option Int := (Option.bind (Find_crew p0 x1) fun r24 => (Option.bind (Common_forest p0.tree p2 r24.1.group) fun r25 => (if (p1 != 0) then (if (r24.1.user != p1) then ((moves_delegateJ3 n1) true) else (Option.bind (enter_delegate p0.tree p1 r25.1) fun r28 => ((moves_delegateJ3 n1) (!r28)))) else (Option.bind (enter_delegate p0.tree p1 r25.1) fun r29 => ((moves_delegateJ3 n1) (!r29))))))
def moves_delegateD1 (s1 : Unit) : Option Int := (some 0)
def moves_delegate (p0 : Hierarchy) (p1 : Int) (p2 : Int) (p3 : List Int) : Option Int := (Option.bind (At_forest p0.tree p2) fun r1 => (if (decide (r1 < 0)) then (some 4) else (Option.bind (enter_delegate p0.tree p1 p2) fun r3 => (if (!r3) then (some 8) else (if p3.length ≤ 1073741824 then rangeL (moves_delegateL1 p0 p1 p2) moves_delegateD1 p3 0 () else none)))))
def Move_delegateJ1 (p0 : Hierarchy) (p1 : Int) (p2 : Int) (p3 : Int) (y1 : Bool) : Option (Hierarchy × Int) := (if y1 then (Option.bind (refuse_delegate 1) fun r5 => (some (r5.1, r5.2))) else (Option.bind (Find_crew p0 p2) fun r6 => (if ((!r6.2) || (r6.1.process != p2)) then (Option.bind (refuse_delegate 4) fun r9 => (some (r9.1, r9.2))) else (Option.bind (Threads_crew p0 p2) fun r10 => (Option.bind (moves_delegate p0 p1 p3 r10) fun r11 => (if (r11 != 0) then (Option.bind (refuse_delegate r11) fun r13 => (some (r13.1, r13.2))) else (Option.bind (Attach_threaded p0 p2 p3) fun r14 => (some (r14.1, r14.2)))))))))
def Move_delegate (p0 : Hierarchy) (p1 : Int) (p2 : Int) (p3 : Int) : Option (Hierarchy × Int) := (Option.bind (user_delegate p1) fun r1 => (if (!r1) then ((Move_delegateJ1 p0 p1 p2 p3) true) else (Option.bind (Fits_threaded p0) fun r3 => ((Move_delegateJ1 p0 p1 p2 p3) (!r3)))))
def sane_law9 : Option Bool := (Option.bind New_ref6 fun r1 => (Option.bind (Create_ref8 r1 1 (bs [97])) fun r2 => (Option.bind (Grant_delegate r2.1.tree 0 r2.2.1 7) fun r4 => (Option.bind (Create_delegate ({ tree := r4.1, tasks := r2.1.tasks, next := r2.1.next } : Hierarchy) 7 r2.2.1 (bs [98])) fun r7 => (Option.bind (Spawn_ref6 r7.1 1 7) fun r10 => (Option.bind (Spawn_ref6 r10.1 r2.2.1 7) fun r13 => (Option.bind (Move_delegate r13.1 7 r10.2.1 r2.2.1) fun r16 => (Option.bind (Move_delegate r13.1 7 r13.2.1 r7.2.1) fun r17 => (some ((((r4.2 == 0) && (r7.2.2 == 0)) && (r16.2 == 8)) && (r17.2 == 0)))))))))))
def Enter_delegateJ1 (y1 : Bool) : Option Bool := (some y1)
def Enter_delegate (p0 : Tree) (p1 : Int) (p2 : Int) : Option Bool := (Option.bind (Check_tree p0) fun r1 => (if r1 then (Option.bind (enter_delegate p0 p1 p2) fun r3 => (Enter_delegateJ1 r3)) else (Enter_delegateJ1 false)))
def Full_delegateJ1 (y1 : Bool) : Option Bool := (some y1)
def Full_delegate (p0 : Tree) (p1 : Int) (p2 : Int) : Option Bool := (Option.bind (Check_tree p0) fun r1 => (if r1 then (Option.bind (full_delegate p0 p1 p2) fun r3 => (Full_delegateJ1 r3)) else (Full_delegateJ1 false)))
def DelegateAll_law9J7 (n1 : Unit → Option Bool) (y7 : Bool) : Option Bool := (if y7 then (some false) else (n1 ()))
def DelegateAll_law9J6 (r5 : Hierarchy × Dice) (r13 : Int × Dice) (x1 : Node) (n1 : Unit → Option Bool) (y6 : Unit) : Option Bool := (Option.bind (Full_delegate r5.1.tree (w64 (1 + r13.1)) x1.id) fun r83 => (if r83 then (Option.bind (Enter_delegate r5.1.tree (w64 (1 + r13.1)) x1.id) fun r85 => (if (!r85) then ((DelegateAll_law9J7 n1) true) else (Option.bind (Full_delegate r5.1.tree 0 x1.id) fun r87 => ((DelegateAll_law9J7 n1) (!r87))))) else (Option.bind (Full_delegate r5.1.tree 0 x1.id) fun r88 => ((DelegateAll_law9J7 n1) (!r88)))))
def DelegateAll_law9L4 (r5 : Hierarchy × Dice) (r13 : Int × Dice) (k4 : Nat) (x4 : Int) (s4 : Unit) (n4 : Unit → Option Bool) : Option Bool := (Option.bind (Full_delegate r5.1.tree (w64 (1 + r13.1)) x4) fun r81 => (if (!r81) then (some false) else (n4 ())))
def DelegateAll_law9D4 (r5 : Hierarchy × Dice) (r13 : Int × Dice) (x1 : Node) (n1 : Unit → Option Bool) (s4 : Unit) : Option Bool := ((DelegateAll_law9J6 r5 r13 x1 n1) ())
def DelegateAll_law9L1 (r5 : Hierarchy × Dice) (r13 : Int × Dice) (k1 : Nat) (x1 : Node) (s1 : Unit) (n1 : Unit → Option Bool) : Option Bool := (Option.bind (Enter_delegate r5.1.tree (w64 (1 + r13.1)) x1.id) fun r67 => (if r67 then (Option.bind (Children_ref5 r5.1.tree x1.id) fun r69 => (if r69.length ≤ 1073741824 then rangeL (DelegateAll_law9L4 r5 r13) (DelegateAll_law9D4 r5 r13 x1 n1) r69 0 () else none)) else ((DelegateAll_law9J6 r5 r13 x1 n1) ())))
def DelegateAll_law9D1 (s1 : Unit) : Option Bool := (Option.bind sane_law9 fun r90 => (some r90))
def DelegateAll_law9J1 (r5 : Hierarchy × Dice) (r7 : Int × Dice) (y1 : Bool) : Option Bool := (if y1 then (some false) else (Option.bind (Next_Dice_made r7.2 2) fun r13 => (if r5.1.tree.nodes.length ≤ 1073741824 then rangeL (DelegateAll_law9L1 r5 r13) DelegateAll_law9D1 r5.1.tree.nodes 0 () else none)))
def DelegateAll_law9 (p0 : List Int) : Option Bool := (Option.bind (Light_made p0) fun r1 => (if (!r1) then (Option.bind sane_law9 fun r3 => (some r3)) else (Option.bind (Roll_made p0) fun r4 => (Option.bind (Hierarchy_Dice_made r4 6 6) fun r5 => (Option.bind (Group_Dice_made r5.2 r5.1.tree) fun r6 => (Option.bind (Task_Dice_made r6.2 r5.1) fun r7 => (Option.bind (Move_delegate r5.1 0 r7.1 r6.1) fun r8 => (Option.bind (Attach_ref8 r5.1 r7.1 r6.1) fun r9 => (if (r8.2 != r9.2) then ((DelegateAll_law9J1 r5 r7) true) else (Option.bind (Same_ref6 r8.1 r9.1) fun r11 => ((DelegateAll_law9J1 r5 r7) (!r11))))))))))))
end Go.Dm

/- Plain theory, part 31: threaded's functions. -/
namespace Go.Dm
theorem for_map {α R : Type} {f : α → α} {d : α} {L : List α} {body : Int → List α → (List α → Option R) → Option R} {done : List α → Option R}
  (hb : ∀ (M : List α) (m : Nat) n, M.length = L.length → m < M.length → body (m : Int) M n = n (M.set m (f (M.getD m d)))) : forO body done L.length 0 L = done (L.map f) := by
 have key : ∀ (B A : List α), A.length + B.length = L.length → forO body done B.length (A.length : Int) (A.map f ++ B) = done (A.map f ++ B.map f) := by
  intro B
  induction B with
  | nil => intro A _; rfl
  | cons x B ih =>
   intro A hl
   simp only [List.length_cons] at hl ⊢
   rw [forO, hb _ _ _ (by simp; omega) (by simp)]
   have e1 : (A.map f ++ x :: B).getD A.length d = x := by
    have := getD_pre (pre := A.map f) (post := B) (x := x) (d := d)
    rw [List.length_map] at this
    exact this
   have e2 : (A.map f ++ x :: B).set A.length (f x) = (A ++ [x]).map f ++ B := by
    rw [List.set_append]
    simp
   rw [e1, e2]
   have := ih (A ++ [x]) (by simp; omega)
   rw [show ((A.length : Int) + 1) = (((A ++ [x]).length : Nat) : Int) by simp, this]
   simp
 have := key L [] (by simp)
 simpa using this
theorem Attach_threaded_t {h : Hierarchy} (f : FitsP h) (k g : Int) : Attach_threaded h k g = some (attK h k g) := by
 have w := f.snd.wf
 have l1 := w.len
 have l2 := w.tree.len2
 unfold Attach_threaded attK refuse_threaded
 rw [Fits_threaded_t f, Option.bind_some, if_neg (by simp), findC w, Option.bind_some, findF w.tree, Option.bind_some]
 have hc : ((!(getK h.tasks k).isSome || ((getK h.tasks k).getD zK).process != k) || !hasN h.tree g) = !((getK h.tasks k).isSome && (((getK h.tasks k).getD zK).process == k) && hasN h.tree g) := by
  cases (getK h.tasks k).isSome <;> cases hasN h.tree g <;> simp [bne]
 simp only
 rw [hc]
 cases hx : (!((getK h.tasks k).isSome && (((getK h.tasks k).getD zK).process == k) && hasN h.tree g)) with
 | true => rfl
 | false =>
  simp only [Bool.false_eq_true, if_false]
  have hg : hasN h.tree g = true := by
   simp only [Bool.not_eq_false', Bool.and_eq_true] at hx
   exact hx.2
  have ht : (typeN h.tree g == 2) = ((nodeN h.tree g).kind == 1) := by
   unfold typeN
   rw [hg]
   simp only [Bool.not_true, Bool.false_eq_true, if_false]
   show _ = thrN h.tree g
   cases thrN h.tree g
   ·simp only [Bool.false_eq_true, if_false]
    cases invN h.tree g <;> cases (kidsN h.tree g).any (thrN h.tree) <;> rfl
   ·rfl
  rw [ht]
  cases hk : ((nodeN h.tree g).kind == 1) with
  | true => rfl
  | false =>
   simp only [Bool.false_eq_true, if_false]
   rw [admits_threaded_t w, Option.bind_some]
   cases ha : (admitN h.tree g != 0) with
   | true => rfl
   | false =>
    simp only [Bool.false_eq_true, if_false]
    rw [Copy_crew_eq h (by omega) (by omega), Option.bind_some, if_pos (by omega)]
    have hn : Int.toNat (((h.tasks.length : Nat) : Int) - 0) = h.tasks.length := by omega
    rw [hn, for_map (f := movedK k g) (d := default) (L := h.tasks) fun M m n hM hm => by
     unfold Attach_threadedL1 Attach_threadedJ3
     have em : Int.toNat (m : Int) = m := by omega
     rw [em, if_pos (by omega), if_pos (by omega)]
     unfold movedK
     cases hp : ((M.getD m default).process == k)
     ·simp only [Bool.false_eq_true, if_false]
      rw [set_self hm]
     ·simp only [if_true]
      rw [if_pos (by omega), if_pos (by omega)]]
    rfl
end Go.Dm

/- Plain theory, part 32: new groups. -/
namespace Go.Dm
end Go.Dm

/- Plain theory, part 33: controllers are written, groups are made threaded. -/
namespace Go.Dm
theorem find_any {α β : Type} {p : α → Bool} {a b : β} {xs : List α} : (xs.find? p).elim a (fun _ => b) = if xs.any p then b else a := by
 cases h : xs.find? p with
 | none =>
  rw [List.find?_eq_none] at h
  rw [if_neg]
  ·rfl
  ·simpa using h
 | some x =>
  rw [if_pos (List.any_eq_true.mpr ⟨x, List.mem_of_find?_eq_some h, List.find?_some h⟩)]
  rfl
end Go.Dm

/- Plain theory, part 34: names of made groups are short. -/
namespace Go.Dm
end Go.Dm

/- Plain theory, part 35: rights of users. -/
namespace Go.Dm
theorem sane_law9_t : sane_law9 = some true := by kernel_rfl
def userB (n : Int) : Bool := decide (n ≥ 0) && decide (n ≤ 1048576)
def ownB (t : Tree) (u a : Int) : Bool := (nodeN t a).owner == u
def fullN (t : Tree) (u id : Int) : Bool := userB u && (decide (0 < (upT t id).length) && (u == 0 || ((upT t id).drop 1).any (ownB t u)))
def enterN (t : Tree) (u id : Int) : Bool := fullN t u id || (userB u && (u != 0 && (upT t id).any (ownB t u)))
theorem up_len {t : Tree} (id : Int) : (upT t id).length ≤ t.nodes.length := by
 have := upR_length t.nodes.reverse id
 simpa [upT] using this
theorem owns_delegate_t {t : Tree} (w : WfT t) (u : Int) {l : List Int} (hl : l.length ≤ 1000000) : owns_delegate t u l = some (l.any (ownB t u)) := by
 have l2 := w.len2
 unfold owns_delegate ContainsFunc_slices_intQownsFa_delegate IndexFunc_slices_intQownsFa_delegate
 rw [if_pos (by omega), range_index (p := ownB t u) (fun k x n => by unfold IndexFunc_slices_intQownsFa_delegateL1 ownsFa_delegate; rw [findF w, Option.bind_some, Option.bind_some]; rfl) rfl, Option.bind_some, Option.bind_some]
 congr 1
 rcases idx_cases (ownB t u) l 0 with ⟨i, h1, h2, h3⟩ | ⟨h1, h2⟩
 ·rw [h2]
  have : l.any (ownB t u) = true := List.any_eq_true.mpr ⟨_, List.mem_of_find?_eq_some h3, List.find?_some h3⟩
  rw [this]
  simp
 ·rw [h1]
  rw [List.find?_eq_none] at h2
  rw [List.any_eq_false.mpr h2]
  rfl
theorem full_delegate_t {t : Tree} (w : WfT t) (u id : Int) : full_delegate t u id = some (fullN t u id) := by
 have l2 := w.len2
 have hul := up_len (t := t) id
 unfold full_delegate fullN user_delegate
 rw [Ancestors_forest_t w, Option.bind_some, Option.bind_some]
 rw [show (decide (u ≥ 0) && decide (u ≤ 1048576)) = userB u from rfl]
 cases userB u with
 | false => rfl
 | true =>
  rw [if_pos rfl]
  by_cases h : 0 < (upT t id).length
  ·rw [if_pos (by simpa using h)]
   cases hu : (u == 0) with
   | true =>
    simp [full_delegateJ1]
    exact h
   | false =>
    rw [if_neg (by simp), if_pos (by omega)]
    have : (((upT t id).drop 1).take (subN (upT t id).length 1)) = (upT t id).drop 1 := by
     apply List.take_of_length_le
     have : subN (upT t id).length 1 = (upT t id).length - 1 := rfl
     rw [this]
     simp
    rw [this, owns_delegate_t w u (by simp; omega), Option.bind_some]
    unfold full_delegateJ1
    congr 1
    have hd : decide (0 < (upT t id).length) = true := by simpa using h
    rw [hd]
    rfl
  ·rw [if_neg (by simpa using h)]
   have hd : decide (0 < (upT t id).length) = false := by simpa using h
   rw [hd]
   rfl
theorem enter_delegate_t {t : Tree} (w : WfT t) (u id : Int) : enter_delegate t u id = some (enterN t u id) := by
 have l2 := w.len2
 have hul := up_len (t := t) id
 unfold enter_delegate enterN user_delegate enter_delegateJ1
 rw [full_delegate_t w, Option.bind_some]
 cases fullN t u id with
 | true => rfl
 | false =>
  rw [if_neg (by simp), Option.bind_some]
  rw [show (decide (u ≥ 0) && decide (u ≤ 1048576)) = userB u from rfl]
  cases userB u with
  | false => rfl
  | true =>
   cases hu : (u != 0) with
   | false => rfl
   | true =>
    rw [if_pos rfl, if_pos rfl, Ancestors_forest_t w, Option.bind_some, owns_delegate_t w u (by omega), Option.bind_some]
    rfl
theorem Full_delegate_t {t : Tree} (w : WfT t) (u id : Int) : Full_delegate t u id = some (fullN t u id) := by
 unfold Full_delegate
 rw [Check_tree_t w, Option.bind_some, if_pos rfl, full_delegate_t w]
 rfl
theorem Enter_delegate_t {t : Tree} (w : WfT t) (u id : Int) : Enter_delegate t u id = some (enterN t u id) := by
 unfold Enter_delegate
 rw [Check_tree_t w, Option.bind_some, if_pos rfl, enter_delegate_t w]
 rfl
def comN (t : Tree) (a b : Int) : Int := ((upT t a).find? (fun x => (upT t b).contains x)).getD 0
theorem Common_forest_t {t : Tree} (w : WfT t) (a b : Int) : ∃ q, Common_forest t a b = some (comN t a b, q) := by
 have l2 := w.len2
 have h1 := up_len (t := t) a
 have h2 := up_len (t := t) b
 unfold Common_forest comN
 rw [Ancestors_forest_t w, Option.bind_some, Ancestors_forest_t w, Option.bind_some, if_pos (by omega)]
 rw [range_find (p := fun x => (upT t b).contains x) (f := fun x => (x, true)) (z := (0, false)) ?_ rfl]
 ·cases (upT t a).find? (fun x => (upT t b).contains x) with
  | none => exact ⟨false, rfl⟩
  | some x => exact ⟨true, rfl⟩
 ·intro k x n
  unfold Common_forestL1
  rw [Contains_eq _ _ (by omega), Option.bind_some]
end Go.Dm

/- Plain theory, part 36: acts of users. -/
namespace Go.Dm
def mayB (h : Hierarchy) (u g k : Int) : Bool := (u == 0 || ((getK h.tasks k).getD zK).user == u) && (enterN h.tree u g && enterN h.tree u (comN h.tree g ((getK h.tasks k).getD zK).group))
def actM (h : Hierarchy) (u k g : Int) : Hierarchy × Int :=
 if !userB u then (zH, 1) else if !((getK h.tasks k).isSome && (((getK h.tasks k).getD zK).process == k) && hasN h.tree g) then (zH, 4)
 else if !(threadsK h k).all (mayB h u g) then (zH, 8) else attK h k g
theorem moves_t {h : Hierarchy} (w : WfH h) (u g : Int) {ks : List Int} (hne : ks ≠ []) (hl : ks.length ≤ 1000000) : moves_delegate h u g ks = some (if !hasN h.tree g then 4 else if !ks.all (mayB h u g) then 8 else 0) := by
 have l2 := w.tree.len2
 unfold moves_delegate
 obtain ⟨q, eq, hq, _⟩ := At_forest_has h.tree g (by omega)
 rw [eq, Option.bind_some, hq]
 cases hasN h.tree g with
 | false => rfl
 | true =>
 simp only [Bool.not_true, Bool.false_eq_true, if_false]
 rw [enter_delegate_t w.tree, Option.bind_some]
 cases he : enterN h.tree u g with
 | false =>
  obtain ⟨k, r, rfl⟩ := List.exists_cons_of_ne_nil hne
  simp [mayB, he]
 | true =>
 simp only [Bool.not_true, Bool.false_eq_true, if_false]
 rw [if_pos (by omega)]
 rw [range_find (p := fun k => !mayB h u g k) (f := fun _ => (8 : Int)) (z := (0 : Int)) ?_ rfl, find_any]
 ·congr 1
  have : ks.any (fun k => !mayB h u g k) = !ks.all (mayB h u g) := by
   rw [List.all_eq_not_any_not, Bool.not_not]
  rw [this]
 ·intro _ k n
  unfold moves_delegateL1 moves_delegateJ3
  obtain ⟨q, e⟩ := Common_forest_t w.tree g ((getK h.tasks k).getD zK).group
  rw [findC w, Option.bind_some, e, Option.bind_some, enter_delegate_t w.tree, Option.bind_some]
  unfold mayB
  rw [he]
  cases hu : (u == 0) with
  | true =>
   have : (u != 0) = false := by simpa [bne] using hu
   rw [this]
   cases enterN h.tree u (comN h.tree g ((getK h.tasks k).getD zK).group) <;> rfl
  | false =>
   have : (u != 0) = true := by simpa [bne] using hu
   rw [this]
   cases hus : (((getK h.tasks k).getD zK).user == u) with
   | false =>
    have : (((getK h.tasks k).getD zK).user != u) = true := by simpa [bne] using hus
    rw [this]
    rfl
   | true =>
    have : (((getK h.tasks k).getD zK).user != u) = false := by simpa [bne] using hus
    rw [this]
    cases enterN h.tree u (comN h.tree g ((getK h.tasks k).getD zK).group) <;> rfl
theorem threads_ne {h : Hierarchy} {k : Int} {x : Task} (hx : getK h.tasks k = some x) (hp : x.process = k) : threadsK h k ≠ [] := by
 intro e
 have hm := (getK_some hx).1
 unfold threadsK at e
 rw [List.map_eq_nil_iff, List.filter_eq_nil_iff] at e
 exact e x hm (by simpa using hp)
theorem threads_len (h : Hierarchy) (k : Int) : (threadsK h k).length ≤ h.tasks.length := by
 unfold threadsK
 rw [List.length_map]
 exact List.length_filter_le _ _
theorem Move_delegate_t {h : Hierarchy} (f : FitsP h) (u k g : Int) : Move_delegate h u k g = some (actM h u k g) := by
 have w := f.snd.wf
 have l1 := w.len
 have l2 := w.tree.len2
 unfold Move_delegate actM user_delegate Move_delegateJ1 refuse_delegate
 rw [Option.bind_some, show (decide (u ≥ 0) && decide (u ≤ 1048576)) = userB u from rfl, Fits_threaded_t f]
 cases userB u with
 | false => rfl
 | true =>
 simp only [Bool.not_true, Bool.false_eq_true, if_false, Option.bind_some]
 rw [findC w, Option.bind_some]
 cases hk : getK h.tasks k with
 | none => rfl
 | some x =>
 simp only [Option.isSome_some, Option.getD_some, Bool.not_true, Bool.false_or, Bool.true_and]
 cases hp : (x.process == k) with
 | false =>
  have : (x.process != k) = true := by simpa [bne] using hp
  rw [this]
  rfl
 | true =>
  have : (x.process != k) = false := by simpa [bne] using hp
  have htl := threads_len h k
  rw [this, if_neg (by simp), Threads_crew_t w.sorted (by omega), Option.bind_some, moves_t w u g (threads_ne hk (by simpa using hp)) (by omega), Option.bind_some, Attach_threaded_t f]
  cases hasN h.tree g with
  | false => rfl
  | true => cases (threadsK h k).all (mayB h u g) <;> rfl
end Go.Dm

/- Plain theory, part 37: rights grow downward. -/
namespace Go.Dm
theorem enter_any {t : Tree} {u : Int} (hu : u ≠ 0) (id : Int) : enterN t u id = (userB u && (upT t id).any (ownB t u)) := by
 have h0 : (u == 0) = false := by simpa using hu
 have h1 : (u != 0) = true := by simpa using hu
 unfold enterN fullN
 rw [h0, h1]
 cases userB u with
 | false => rfl
 | true =>
  simp only [Bool.true_and, Bool.false_or]
  cases upT t id with
  | nil => rfl
  | cons a r =>
   simp only [List.drop_succ_cons, List.drop_zero, List.any_cons, List.length_cons]
   cases r.any (ownB t u) <;> simp
theorem full_any {t : Tree} (w : WfT t) {u : Int} (hu : u ≠ 0) {x : Node} (hx : x ∈ t.nodes) : fullN t u x.id = (userB u && (upT t x.parent).any (ownB t u)) := by
 have h0 : (u == 0) = false := by simpa using hu
 unfold fullN
 rw [h0, w.up hx]
 simp
theorem full_zero {t : Tree} (id : Int) (w : WfT t) : fullN t 0 id = hasN t id := by
 unfold fullN
 cases hg : hasN t id with
 | false =>
  rw [up_not hg]
  rfl
 | true =>
  rw [up_cons w hg]
  simp [userB]
theorem enter_zero {t : Tree} (id : Int) (w : WfT t) : enterN t 0 id = hasN t id := by
 unfold enterN
 rw [full_zero id w]
 simp
theorem root_up {t : Tree} (w : WfT t) : ∀ x ∈ t.nodes, (1 : Int) ∈ upT t x.id := by
 refine w.induct ?_
 intro x hx ih
 rw [w.up hx]
 by_cases h1 : x.id = 1
 ·simp [h1]
 ·obtain ⟨y, hy, e⟩ := hasN_iff.mp (has_parent w hx h1)
  have := ih y hy e
  rw [e] at this
  exact List.mem_cons_of_mem _ this
theorem com_has {t : Tree} (w : WfT t) {g b : Int} (hg : hasN t g = true) (hb : hasN t b = true) : hasN t (comN t g b) = true := by
 obtain ⟨x, hx, rfl⟩ := hasN_iff.mp hg
 obtain ⟨y, hy, rfl⟩ := hasN_iff.mp hb
 unfold comN
 cases e : (upT t x.id).find? (fun a => (upT t y.id).contains a) with
 | none =>
  exfalso
  rw [List.find?_eq_none] at e
  exact e 1 (root_up w x hx) (by simpa using root_up w y hy)
 | some c =>
  obtain ⟨n, hn, e2⟩ := up_mem w x hx c (List.mem_of_find?_eq_some e)
  simp only [Option.getD_some]
  rw [← e2]
  exact has_of hn
theorem may_zero {h : Hierarchy} (w : WfH h) {g k : Int} (hg : hasN h.tree g = true) {x : Task} (hx : getK h.tasks k = some x) : mayB h 0 g k = true := by
 unfold mayB
 rw [enter_zero _ w.tree, enter_zero _ w.tree, hg, hx]
 have := (w.val x (getK_some hx).1).grp
 simp [com_has w.tree hg this]
theorem actM_zero {h : Hierarchy} (w : WfH h) (k g : Int) : actM h 0 k g = attK h k g := by
 unfold actM
 rw [show userB 0 = true from rfl, if_neg (by simp)]
 cases hc : ((getK h.tasks k).isSome && (((getK h.tasks k).getD zK).process == k) && hasN h.tree g) with
 | false =>
  unfold attK
  rw [hc]
  rfl
 | true =>
  rw [if_neg (by simp), if_neg]
  simp only [Bool.and_eq_true] at hc
  have : (threadsK h k).all (mayB h 0 g) = true := by
   rw [List.all_eq_true]
   intro y hy
   unfold threadsK at hy
   obtain ⟨z, hz, rfl⟩ := List.mem_map.mp hy
   exact may_zero w hc.2 (getK_of w.sorted (List.mem_filter.mp hz).1)
  rw [this]
  simp
theorem attK_small' {h : Hierarchy} (w : WfH h) (k g : Int) : SmallH (attK h k g).1 := by
 unfold attK
 split
 ·exact zH_small
 split
 ·exact zH_small
 split
 ·exact zH_small
 ·have := w.small
  exact ⟨this.1, by simpa using this.2⟩
end Go.Dm

/- The law DelegateAll, on the model. -/
namespace Go.Dm
theorem delegateAll_ok (l : List Int) : Ok (DelegateAll_law9 l) (· = true) := by
 have sane : ∀ {f : Bool → Option Bool}, f true = some true → Ok (Option.bind sane_law9 f) (· = true) := fun h => Ok.step sane_law9_t (Ok.of_eq h rfl)
 unfold DelegateAll_law9 Light_made
 refine Ok.step rfl ?_
 refine Ok.ite (fun _ => sane rfl) fun c => ?_
 have hl : l.length ≤ 600 := by
  have : ((l.length : Nat) : Int) ≤ 600 := by simpa using c
  omega
 refine Ok.step (a := { l := l, atF := 0 }) rfl ?_
 refine Ok.bind (Hierarchy_fits (dice_roll hl) 6 6 (by omega) (by omega) (by omega) (by omega)) fun r5 ⟨w, hd, f⟩ => ?_
 have l1 := w.len
 have l2 := w.tree.len2
 refine Ok.bind (Group_ok hd _ (by omega)) fun g hd => Ok.bind (Task_ok hd _ (by omega)) fun k hd => ?_
 rw [Move_delegate_t f, Option.bind_some, Attach_ref8_t f, Option.bind_some, actM_zero w, if_neg (by simp)]
 have hs := attK_small' w k.1 g.1
 rw [Same_ref6_refl _ hs.1 hs.2, Option.bind_some]
 unfold DelegateAll_law9J1
 rw [if_neg (by simp)]
 refine Ok.bind (NextPos_ok hd 2 (by omega) (by omega)) fun r ⟨hd, a0, a1⟩ => ?_
 have hu : w64 (1 + r.1) = 1 + r.1 := w64_id (by omega) (by omega)
 have hne : 1 + r.1 ≠ 0 := by omega
 refine Ok.guard (by omega) ?_
 refine Ok.range (fun _ _ => True) trivial ?_ fun _ _ => sane rfl
 intro pre x post s n he _ hn
 have hx : x ∈ r5.1.tree.nodes := by rw [he]; simp
 have hJ7 : Ok (DelegateAll_law9J7 n false) (· = true) := hn () trivial
 have hz : Full_delegate r5.1.tree 0 x.id = some true := by
  rw [Full_delegate_t w.tree, full_zero _ w.tree, has_of hx]
 have hJ6 : Ok (DelegateAll_law9J6 r5 r x n ()) (· = true) := by
  unfold DelegateAll_law9J6
  rw [hu, Full_delegate_t w.tree, Option.bind_some]
  cases hf : fullN r5.1.tree (1 + r.1) x.id with
  | false =>
   rw [if_neg (by simp), hz]
   exact hJ7
  | true =>
   rw [if_pos rfl, Enter_delegate_t w.tree, Option.bind_some, hz]
   have : enterN r5.1.tree (1 + r.1) x.id = true := by
    unfold enterN
    rw [hf]
    rfl
   rw [this]
   exact hJ7
 unfold DelegateAll_law9L1
 rw [hu, Enter_delegate_t w.tree, Option.bind_some]
 refine Ok.ite (fun c => ?_) fun _ => hJ6
 have hkl := kidsN_length r5.1.tree x.id
 rw [Children_ref5_t w.tree, Option.bind_some, has_of hx, if_pos rfl, if_pos (by omega)]
 refine Ok.range (fun _ _ => True) trivial ?_ fun _ _ => hJ6
 intro p2 y q2 _ n2 he2 _ hn2
 have hy : y ∈ kidsN r5.1.tree x.id := by rw [he2]; simp
 obtain ⟨z, hz, e1, rfl⟩ := kids_iff.mp hy
 unfold DelegateAll_law9L4
 rw [hu, Full_delegate_t w.tree, Option.bind_some, full_any w.tree hne hz, e1, ← enter_any hne, c, if_neg (by simp)]
 exact hn2 () trivial
theorem delegateAll_true (l : List Int) (_ : ∀ n ∈ l, -9223372036854775808 ≤ n ∧ n ≤ 9223372036854775807) : DelegateAll_law9 l = some true := (delegateAll_ok l).eq
end Go.Dm

/- Models of Go types and functions, printed by a program. -/
namespace Go.Dm
set_option linter.unusedVariables false

end Go.Dm


/- The data machine, part 24: states by their changes; shorter words for the printed proofs. -/
namespace Go.Dm
def memN : List Nat → Nat → Bool
 | [], _ => false
 | a :: r, k => bif Nat.beq a k then true else memN r k
def delK {α : Type} (ds : List Nat) : List (Nat × α) → List (Nat × α)
 | [] => []
 | (k, x) :: r => bif memN ds k then delK ds r else (k, x) :: delK ds r
def insK {α : Type} (k : Nat) (x : α) : List (Nat × α) → List (Nat × α)
 | [] => [(k, x)]
 | (t, y) :: r => bif Nat.beq k t then (k, x) :: r else bif Nat.ble k t then (k, x) :: (t, y) :: r else (t, y) :: insK k x r
def insA {α : Type} : List (Nat × α) → List (Nat × α) → List (Nat × α)
 | [], l => l
 | (k, x) :: r, l => insK k x (insA r l)
def up {α : Type} (ds : List Nat) (us l : List (Nat × α)) : List (Nat × α) := insA us (delK ds l)
theorem assoc_insK {α : Type} (k : Nat) (x : α) (l : List (Nat × α)) (j : Nat) : assoc (insK k x l) j = assoc ((k, x) :: l) j := by
 induction l with
 | nil => rfl
 | cons p r ih =>
  obtain ⟨t, y⟩ := p
  rw [insK]
  cases hb : Nat.beq k t with
  | true =>
   have := Nat.eq_of_beq_eq_true hb
   subst this
   simp only [cond_true, assoc]
   cases Nat.beq j k <;> rfl
  | false =>
   simp only [cond_false]
   cases Nat.ble k t with
   | true => rfl
   | false =>
    simp only [cond_false, assoc] at ih ⊢
    rw [ih]
    cases h1 : Nat.beq j t with
    | true =>
     have := Nat.eq_of_beq_eq_true h1
     subst this
     cases h2 : Nat.beq j k with
     | true =>
      have := Nat.eq_of_beq_eq_true h2
      subst this
      rw [h1] at hb
      cases hb
     | false => rfl
    | false => rfl
theorem mset_has {α : Type} (m : IMap α) (n : Int) (v : α) : updI m.has n true = (m.set n v).has := rfl
theorem mset_get {α : Type} (enc : α → PV) (m : IMap α) (n : Int) (v : α) : updI (fun j => enc (m.get j)) n (enc v) = fun j => enc ((m.set n v).get j) := by
 funext j
 show (if j = n then enc v else enc (m.get j)) = enc (if j = n then v else m.get j)
 split <;> rfl
inductive AdP where
 | s (t : Nat)
 | a (t j : Nat)
 | o (q j : Nat)
def adNil (k : Nat) : MV → Option MV
 | .p (.sl .nil _ n _) => bif Nat.beq n 0 then some (.own k 0 0 0) else none
 | _ => none
def adCell (k : Nat) : Nat → List MV → Option (List MV)
 | _, [] => none
 | 0, x :: r => match adNil k x with
  | some y => some (y :: r)
  | none => none
 | j + 1, x :: r => match adCell k j r with
  | some s => some (x :: s)
  | none => none
def adMV (k : Nat) : Option Nat → MV → Option MV
 | none, x => adNil k x
 | some j, .agg cs => (adCell k j cs).map .agg
 | _, _ => none
def adObj (k j : Nat) : Obj → Option Obj
 | ⟨g, .box cs⟩ => (adCell k j cs).map fun ds => ⟨g, .box ds⟩
 | _ => none
def adSlot (k t : Nat) (j : Option Nat) : List (Nat × MV) → Option (List (Nat × MV))
 | [] => none
 | (q, x) :: r => bif Nat.beq q t then (adMV k j x).map fun y => (q, y) :: r else (adSlot k t j r).map fun s => (q, x) :: s
def adBox (k q j : Nat) : List (Nat × Obj) → Option (List (Nat × Obj))
 | [] => none
 | (i, o) :: r => bif Nat.beq i q then (adObj k j o).map fun p => (i, p) :: r else (adBox k q j r).map fun s => (i, o) :: s
def adOne (k : Nat) (sl : List (Nat × MV)) (ob : List (Nat × Obj)) : AdP → Option (List (Nat × MV) × List (Nat × Obj))
 | .s t => (adSlot k t none sl).map fun s => (s, ob)
 | .a t j => (adSlot k t (some j) sl).map fun s => (s, ob)
 | .o q j => (adBox k q j ob).map fun b => (sl, b)
def adAll : List (AdP × Nat × Nat × (Nat → List PV)) → List (Nat × MV) → List (Nat × Obj) → Option (List (Nat × MV) × List (Nat × Obj))
 | [], sl, ob => some (sl, ob)
 | (p, k, W, f) :: r, sl, ob => bif Nat.ble 1000 k && (assoc ob k).isNone then (adOne k sl ob p).bind fun q => adAll r q.1 (insK k ⟨0, .row W 0 f⟩ q.2) else none
theorem adNil_ok {k : Nat} {x y : MV} (h : adNil k x = some y) : Ad1 k x y := by
 unfold adNil at h
 split at h
 ·rename_i W n f
  cases hb : Nat.beq n 0 with
  | true =>
   rw [hb] at h
   have := Nat.eq_of_beq_eq_true hb
   subst this
   simp only [cond_true, Option.some.injEq] at h
   subst h
   exact .nil _ _
  | false => rw [hb] at h; simp at h
 ·simp at h
theorem adCell_ok {k : Nat} : ∀ {j : Nat} {l m : List MV}, adCell k j l = some m → AdL k l m
 | _, [], _, h => by simp [adCell] at h
 | 0, x :: r, m, h => by
  rw [adCell] at h
  split at h
  ·rename_i y hy
   simp only [Option.some.injEq] at h
   subst h
   exact .cons (adNil_ok hy) (.rfl _)
  ·simp at h
 | j + 1, x :: r, m, h => by
  rw [adCell] at h
  split at h
  ·rename_i s hs
   simp only [Option.some.injEq] at h
   subst h
   exact .cons (.rfl _) (adCell_ok hs)
  ·simp at h
theorem adMV_ok {k : Nat} {j : Option Nat} {x y : MV} (h : adMV k j x = some y) : Ad k x y := by
 unfold adMV at h
 split at h
 ·exact .one (adNil_ok h)
 ·obtain ⟨ds, hd, rfl⟩ := Option.map_eq_some_iff.mp h
  exact .agg (adCell_ok hd)
 ·simp at h
theorem adSlot_ok {k t : Nat} {j : Option Nat} : ∀ {l m : List (Nat × MV)}, adSlot k t j l = some m → AdS k l m
 | [], _, h => by simp [adSlot] at h
 | (q, x) :: r, m, h => by
  rw [adSlot] at h
  cases hb : Nat.beq q t with
  | true =>
   rw [hb, cond_true] at h
   obtain ⟨y, hy, rfl⟩ := Option.map_eq_some_iff.mp h
   exact .cons (adMV_ok hy) (.rfl _)
  | false =>
   rw [hb, cond_false] at h
   obtain ⟨s, hs, rfl⟩ := Option.map_eq_some_iff.mp h
   exact .cons (.one (.rfl _)) (adSlot_ok hs)
theorem adBox_ok {k q j : Nat} : ∀ {l m : List (Nat × Obj)}, adBox k q j l = some m → AdO k l m
 | [], _, h => by simp [adBox] at h
 | (i, o) :: r, m, h => by
  rw [adBox] at h
  cases hb : Nat.beq i q with
  | true =>
   rw [hb, cond_true] at h
   obtain ⟨p, hp, rfl⟩ := Option.map_eq_some_iff.mp h
   unfold adObj at hp
   split at hp
   ·obtain ⟨ds, hd, rfl⟩ := Option.map_eq_some_iff.mp hp
    exact .box (adCell_ok hd) (.rfl _)
   ·simp at hp
  | false =>
   rw [hb, cond_false] at h
   obtain ⟨s, hs, rfl⟩ := Option.map_eq_some_iff.mp h
   exact .keep (adBox_ok hs)
theorem mkSt_ins (sl : List (Nat × MV)) (k : Nat) (o : Obj) (ob : List (Nat × Obj)) : mkSt sl (insK k o ob) = mkSt sl ((k, o) :: ob) := by
 unfold mkSt
 congr 1
 funext j
 exact assoc_insK k o ob j
theorem Conv.adsAll {cx : Cx} : ∀ (acts : List (AdP × Nat × Nat × (Nat → List PV))) {sl sl' : List (Nat × MV)} {ob ob' : List (Nat × Obj)}, adAll acts sl ob = some (sl', ob') → Conv cx (mkSt sl ob) (mkSt sl' ob')
 | [], sl, sl', ob, ob', h => by
  simp only [adAll, Option.some.injEq, Prod.mk.injEq] at h
  obtain ⟨rfl, rfl⟩ := h
  exact .refl
 | (p, k, W, f) :: r, sl, sl', ob, ob', h => by
  rw [adAll] at h
  cases hk : (Nat.ble 1000 k && (assoc ob k).isNone) with
  | false => rw [hk] at h; simp at h
  | true =>
   rw [hk, cond_true] at h
   obtain ⟨q, hq, h⟩ := Option.bind_eq_some_iff.mp h
   rw [Bool.and_eq_true, Option.isNone_iff_eq_none] at hk
   have a : Conv cx (mkSt sl ob) (mkSt q.1 (insK k ⟨0, .row W 0 f⟩ q.2)) := by
    rw [mkSt_ins]
    unfold adOne at hq
    split at hq
    ·obtain ⟨s, hs, rfl⟩ := Option.map_eq_some_iff.mp hq
     exact Conv.adopt k W f hk.1 hk.2 (adSlot_ok hs) (AdO.rfl ob)
    ·obtain ⟨s, hs, rfl⟩ := Option.map_eq_some_iff.mp hq
     exact Conv.adopt k W f hk.1 hk.2 (adSlot_ok hs) (AdO.rfl ob)
    ·obtain ⟨b, hb, rfl⟩ := Option.map_eq_some_iff.mp hq
     exact Conv.adopt k W f hk.1 hk.2 (AdS.rfl sl) (adBox_ok hb)
   exact a.trans (Conv.adsAll r h)
theorem Conv.ads {cx : Cx} (acts : List (AdP × Nat × Nat × (Nat → List PV))) {sl sl' : List (Nat × MV)} {ob ob' : List (Nat × Obj)} (h : adAll acts sl ob = some (sl', ob') := by kernel_rfl) : Conv cx (mkSt sl ob) (mkSt sl' ob') := Conv.adsAll acts h
theorem Conv.frz {cx : Cx} (ks : List Nat) {sl sl' : List (Nat × MV)} {ob ob' : List (Nat × Obj)} (h : frzAll ks (sl, ob) = (sl', ob') := by kernel_rfl) : Conv cx (mkSt sl ob) (mkSt sl' ob') := Conv.freezes ks h
section
variable {P : Program} {T : Ty} {cx : Cx} {σ : St} {Q : Exit → St → Prop} {R : Type}
theorem DW.rd {nt : Nat} (hT : TyGood P T) (hm : P.follows .mixedOrders = true) (hnt : cx.nt = nt) {ops : Array Oper} {id : Nat} {draw : Bool} {r : List Code} {sl0 : List (Nat × MV)} {ob0 : List (Nat × Obj)} (xs : List Orc) (ds : List Nat) (us : List (Nat × MV)) (dk : List Nat) (uo : List (Nat × Obj))
  {q : Prop} (hq : q) (hQ : DW P cx r (mkSt (up ds us sl0) (up dk uo ob0)) Q) (h : dregQ P T nt ops xs (keysW (up ds us sl0)) (keysW (up dk uo ob0)) draw (mkSt sl0 ob0) = some ((up ds us sl0, up dk uo ob0), q)) : DW P cx (.region id ops draw :: r) (mkSt sl0 ob0) Q :=
 DW.rk hT hm hnt xs _ _ hq h hQ
theorem DW.cv {c : Code} {r : List Code} {sl0 : List (Nat × MV)} {ob0 : List (Nat × Obj)} (ds : List Nat) (us : List (Nat × MV)) (dk : List Nat) (uo : List (Nat × Obj)) (h : Conv cx (mkSt sl0 ob0) (mkSt (up ds us sl0) (up dk uo ob0))) (k : DW P cx (c :: r) (mkSt (up ds us sl0) (up dk uo ob0)) Q) : DW P cx (c :: r) (mkSt sl0 ob0) Q := DW.conv h k
theorem Conv.eqK {sl0 sl : List (Nat × MV)} {ob0 ob : List (Nat × Obj)} (h : (sl0, ob0) = (sl, ob) := by kernel_rfl) : Conv cx (mkSt sl0 ob0) (mkSt sl ob) := by
 obtain ⟨rfl, rfl⟩ := Prod.mk.inj h
 exact .refl
theorem Conv.t0 {sl : List (Nat × MV)} {ob : List (Nat × Obj)} (h : (normSl (keysW sl) (keysW ob) σ, normOb (keysW ob) σ) = (patchS [] sl, patchO [] ob) := by kernel_rfl) : Conv cx σ (mkSt sl ob) := Conv.tp [] [] h .nil .nil
theorem condM {c : Operand} {x y : Code} {r : List Code} {b : Bool} {X Y : Option R} {res : R} (hm : (if b = true then X else Y) = some res) (h1 : b = true → X = some res → DW P cx (x :: r) σ Q) (h2 : b = false → Y = some res → DW P cx (y :: r) σ Q)
  (hk : constOK c = true := by kernel_rfl) (hc : ev σ c = .p (.v (.bool b)) := by kernel_rfl) : DW P cx (.cond c x y :: r) σ Q :=
 DW.cond b hk hc (fun e => h1 e (if_t e hm)) (fun e => h2 e (if_f e hm))
theorem condK {c : Operand} {x y : Code} {r : List Code} (b : Bool) (h1 : b = true → DW P cx (x :: r) σ Q) (h2 : b = false → DW P cx (y :: r) σ Q)
  (hk : constOK c = true := by kernel_rfl) (hc : ev σ c = .p (.v (.bool b)) := by kernel_rfl) : DW P cx (.cond c x y :: r) σ Q := DW.cond b hk hc h1 h2
theorem condT {c : Operand} {x y : Code} {r : List Code} {b : Bool} (hb : b = true) (h1 : DW P cx (x :: r) σ Q)
  (hk : constOK c = true := by kernel_rfl) (hc : ev σ c = .p (.v (.bool b)) := by kernel_rfl) : DW P cx (.cond c x y :: r) σ Q := DW.cond b hk hc (fun _ => h1) (fun e => by rw [hb] at e; cases e)
theorem condF {c : Operand} {x y : Code} {r : List Code} {b : Bool} (hb : b = false) (h1 : DW P cx (y :: r) σ Q)
  (hk : constOK c = true := by kernel_rfl) (hc : ev σ c = .p (.v (.bool b)) := by kernel_rfl) : DW P cx (.cond c x y :: r) σ Q := DW.cond b hk hc (fun e => by rw [hb] at e; cases e) (fun _ => h1)
theorem retK {results : List ResultVar} {m : Nat} {res : MV} {bs : List Body} (bs' : List Body) (ex : List Nat) (res' : MV) (h : fin T results m ex σ = some (res', bs') := by kernel_rfl) (e : res' = res := by rfl) (e2 : bs' = bs := by rfl) : finQ T results m res bs .ret σ := retOK ex res' h e e2
theorem endK {results : List ResultVar} {m : Nat} {res : MV} {bs : List Body} (bs' : List Body) (ex : List Nat) (res' : MV) (h : fin T results m ex σ = some (res', bs') := by kernel_rfl) (e : res' = res := by rfl) (e2 : bs' = bs := by rfl) : finQ T results m res bs .normal σ := endOK ex res' h e e2
theorem Sq {x y : Code} {r : List Code} (h : DW P cx (x :: y :: r) σ Q) : DW P cx (.seq x y :: r) σ Q := DW.seq h
theorem Sk {r : List Code} (h : DW P cx r σ Q) : DW P cx (.skip :: r) σ Q := DW.skip h
theorem Bk {id : Nat} {c : Code} {r : List Code} (h : DW P cx [c] σ (blockQ id (KQ P cx r Q))) : DW P cx (.block id c :: r) σ Q := DW.block h
theorem Jn {ι : Type} {c : Code} {r : List Code} (J : ι → St) (m : ι → Prop) (hj : ∀ i, m i → DW P cx r (J i) Q) (h : DW P cx [c] σ (joinQ cx J m (KQ P cx r Q))) : DW P cx (c :: r) σ Q := DW.join J m hj h
theorem jD {ι : Type} {J : ι → St} {m : ι → Prop} (i : ι) (h1 : m i) (h2 : Conv cx σ (J i)) : DW P cx [] σ (joinQ cx J m Q) := joinDone i h1 h2
theorem bD {ι : Type} {J : ι → St} {m : ι → Prop} {id : Nat} (i : ι) (h1 : m i) (h2 : Conv cx σ (J i)) : DW P cx [] σ (blockQ id (KQ P cx [] (joinQ cx J m Q))) := blockDone i h1 h2
theorem tv : True := trivial
theorem sj {a b : R} (h : some a = some b) : a = b := Option.some.inj h
theorem bo {α : Type} {x : Option α} {k : α → Option R} {r : R} (h : x.bind k = some r) : ∃ a, x = some a ∧ k a = some r := bind_open h
theorem go1 {p : Prop} [Decidable p] {x : Option R} {r : R} (h : (if p then x else none) = some r) : p ∧ x = some r := guard_open h
theorem go2 {p q : Prop} [Decidable p] [Decidable q] {x : Option R} {r : R} (h : (if p then if q then x else none else none) = some r) : p ∧ q ∧ x = some r := ⟨(guard_open h).1, guard_open (guard_open h).2⟩
theorem go3 {p q s : Prop} [Decidable p] [Decidable q] [Decidable s] {x : Option R} {r : R} (h : (if p then if q then if s then x else none else none else none) = some r) : p ∧ q ∧ s ∧ x = some r := ⟨(guard_open h).1, go2 (guard_open h).2⟩
theorem go4 {p q s t : Prop} [Decidable p] [Decidable q] [Decidable s] [Decidable t] {x : Option R} {r : R} (h : (if p then if q then if s then if t then x else none else none else none else none) = some r) : p ∧ q ∧ s ∧ t ∧ x = some r := ⟨(guard_open h).1, go3 (guard_open h).2⟩
end
end Go.Dm

/- Types of the program. -/
namespace Go.Dm
open Go.Proofs
set_option linter.unusedVariables false
def Tt : Ty := [(3, ⟨.int .i64, 1, 8, [.int .i64 0], false⟩),
  (5, ⟨.int .u8, 1, 1, [.int .u8 0], false⟩),
  (9, ⟨.str, 1, 16, [.string ByteArray.empty], false⟩),
  (22, ⟨.slice 3, 1, 24, [.slice none 0 0], false⟩),
  (27, ⟨.slice 35, 1, 24, [.slice none 0 0], false⟩),
  (29, ⟨.struct [(0, 27), (1, 3)], 2, 32, [.slice none 0 0, .int .i64 0], false⟩),
  (30, ⟨.slice 51, 1, 24, [.slice none 0 0], false⟩),
  (32, ⟨.struct [(0, 29), (2, 30), (3, 3)], 4, 64, [.slice none 0 0, .int .i64 0, .slice none 0 0, .int .i64 0], false⟩),
  (35, ⟨.struct [(0, 3), (1, 3), (2, 9), (3, 3), (4, 3), (5, 3)], 6, 56, [.int .i64 0, .int .i64 0, .string ByteArray.empty, .int .i64 0, .int .i64 0, .int .i64 0], true⟩),
  (37, ⟨.int .i64, 1, 8, [.int .i64 0], false⟩),
  (51, ⟨.struct [(0, 3), (1, 3), (2, 3), (3, 3)], 4, 32, [.int .i64 0, .int .i64 0, .int .i64 0, .int .i64 0], true⟩),
  (76, ⟨.struct [(0, 22), (1, 3)], 2, 32, [.slice none 0 0, .int .i64 0], false⟩),
  (84, ⟨.map 3 3, 1, 8, [(.map none)], false⟩),
  (91, ⟨.slice 9, 1, 24, [.slice none 0 0], false⟩),
  (118, ⟨.slice 5, 1, 24, [.slice none 0 0], false⟩),
  (126, ⟨.int .u64, 1, 8, [.int .u64 0], false⟩),
  (131, ⟨.int .i64, 1, 8, [.int .i64 0], false⟩),
  (140, ⟨.int .u64, 1, 8, [.int .u64 0], false⟩),
  (141, ⟨.int .u64, 1, 8, [.int .u64 0], false⟩)]
theorem Tgood : TyGood Tryz.prog Tt := tyGood_of ⟨⟨⟨by kernel_rfl, by kernel_rfl⟩, trivial⟩, ⟨⟨by kernel_rfl, by kernel_rfl⟩, trivial⟩, ⟨⟨by kernel_rfl, by kernel_rfl⟩, trivial⟩, ⟨⟨by kernel_rfl, by kernel_rfl⟩, trivial⟩, ⟨⟨by kernel_rfl, by kernel_rfl⟩, trivial⟩, ⟨⟨by kernel_rfl, by kernel_rfl⟩, trivial⟩, ⟨⟨by kernel_rfl, by kernel_rfl⟩, trivial⟩, ⟨⟨by kernel_rfl, by kernel_rfl⟩, trivial⟩, ⟨⟨by kernel_rfl, by kernel_rfl⟩, ⟨by kernel_rfl, by kernel_rfl, by kernel_rfl⟩⟩, ⟨⟨by kernel_rfl, by kernel_rfl⟩, trivial⟩, ⟨⟨by kernel_rfl, by kernel_rfl⟩, ⟨by kernel_rfl, by kernel_rfl, by kernel_rfl⟩⟩, ⟨⟨by kernel_rfl, by kernel_rfl⟩, trivial⟩, ⟨⟨by kernel_rfl, by kernel_rfl⟩, trivial⟩, ⟨⟨by kernel_rfl, by kernel_rfl⟩, trivial⟩, ⟨⟨by kernel_rfl, by kernel_rfl⟩, trivial⟩, ⟨⟨by kernel_rfl, by kernel_rfl⟩, trivial⟩, ⟨⟨by kernel_rfl, by kernel_rfl⟩, trivial⟩, ⟨⟨by kernel_rfl, by kernel_rfl⟩, trivial⟩, ⟨⟨by kernel_rfl, by kernel_rfl⟩, trivial⟩, trivial⟩ (by kernel_rfl) (by kernel_rfl)
theorem mixed : Tryz.prog.follows .mixedOrders = true := by kernel_rfl
theorem RK {cx : Cx} {σ : St} {Q : Exit → St → Prop} {nt : Nat} (hnt : cx.nt = nt) {ops : Array Oper} {id : Nat} {draw : Bool} {r : List Code} (xs : List Orc) (sl : List (Nat × MV)) (ob : List (Nat × Obj))
    {q : Prop} (hq : q) (hQ : DW Tryz.prog cx r (mkSt sl ob) Q) (h : dregQ Tryz.prog Tt nt ops xs (keysW sl) (keysW ob) draw σ = some ((sl, ob), q) := by kernel_rfl) : DW Tryz.prog cx (.region id ops draw :: r) σ Q := DW.rk Tgood mixed hnt xs sl ob hq h hQ
theorem RD {cx : Cx} {Q : Exit → St → Prop} {nt : Nat} (hnt : cx.nt = nt) {ops : Array Oper} {id : Nat} {draw : Bool} {r : List Code} {sl0 : List (Nat × MV)} {ob0 : List (Nat × Obj)} (xs : List Orc) (ds : List Nat) (us : List (Nat × MV)) (dk : List Nat) (uo : List (Nat × Obj))
    {q : Prop} (hq : q) (hQ : DW Tryz.prog cx r (mkSt (up ds us sl0) (up dk uo ob0)) Q) (h : dregQ Tryz.prog Tt nt ops xs (keysW (up ds us sl0)) (keysW (up dk uo ob0)) draw (mkSt sl0 ob0) = some ((up ds us sl0, up dk uo ob0), q) := by kernel_rfl) : DW Tryz.prog cx (.region id ops draw :: r) (mkSt sl0 ob0) Q := DW.rd Tgood mixed hnt xs ds us dk uo hq hQ h
theorem SO {f : FuncId} {fn : Func} {c : Code} (hf : Tryz.prog.funcs[f]? = some fn) (hb : fn.body = some c)
    {args : List MV} {outs : List Body} {res : MV} {outs' news : List Body} (hlen : outs'.length = outs.length)
    (sl : List (Nat × MV)) (ob : List (Nat × Obj)) (hd : ∀ cx : Cx, cx.nt = fn.ntmps → DW Tryz.prog cx [c] (mkSt sl ob) (finQ Tt fn.results.toList outs.length res (outs' ++ news)))
    (hname : fn.name ≠ "runtime.NumGoroutine" := by decide) (hle : Nat.ble args.length fn.ntmps = true := by rfl) (hm : Nat.ble outs.length 1000 = true := by rfl)
    (h1 : normSl (upN args.length 0) (upN outs.length 0) ⟨fun t => (args[t]?).getD .any, objsL outs⟩ = sl := by kernel_rfl)
    (h2 : normOb (upN outs.length 0) ⟨fun t => (args[t]?).getD .any, objsL outs⟩ = ob := by kernel_rfl) :
    Spec Tryz.prog f args outs res outs' news := spec_of Tgood hf hname hb hlen (Nat.le_of_ble_eq_true hle) (Nat.le_of_ble_eq_true hm) h1 h2 fun cx hnt => DW.start (hd cx hnt)
theorem RN {cx : Cx} {σ : St} {Q : Exit → St → Prop} {nt : Nat} (hnt : cx.nt = nt) {ops : Array Oper} {id : Nat} {draw : Bool} {r : List Code} (xs : List Orc) (sl : List (Nat × MV)) (ob : List (Nat × Obj))
    (ps : List (Nat × MV)) (qs : List (Nat × Body)) {q : Prop} (hq : q) (h : dregQ Tryz.prog Tt nt ops xs (keysW sl) (keysW ob) draw σ = some ((patchS ps sl, patchO qs ob), q)) (hs : SP sl ps) (ho : OP ob qs)
    (hQ : DW Tryz.prog cx r (mkSt sl ob) Q) : DW Tryz.prog cx (.region id ops draw :: r) σ Q := DW.rn Tgood mixed hnt xs sl ob ps qs hq h hs ho hQ
theorem RT {cx : Cx} {σ : St} {nt : Nat} (hnt : cx.nt = nt) {ops : Array Oper} {draw : Bool} {sl : List (Nat × MV)} {ob : List (Nat × Obj)} (xs : List Orc)
    (ps : List (Nat × MV)) {q : Prop} (hq : q) (h : dregQ Tryz.prog Tt nt ops xs (keysW sl) (keysW ob) draw σ = some ((patchS ps sl, ob), q)) (hs : SP sl ps) : RegTo Tryz.prog cx ops draw σ sl ob := RegTo.rn Tgood mixed hnt xs ps hq h hs
end Go.Dm


/- Go functions compute their models, printed by a program. -/
namespace Go.Dm
open Go.Proofs
set_option linter.unusedVariables false
theorem Light_madeSpec (p0 : List Int) (RES : Bool) (hm : Light_made p0 = some RES) : Spec Tryz.prog 15 [.p (slI p0)] [] (pB RES) [] [] := by
 unfold Light_made at hm
 refine SO Tryz.func15 rfl rfl [(0, .p (slI p0))] [] ?_
 intro cx hnt
 refine Sq (RK hnt (.no :: []) [(0, .p (slI p0))] [] tv ?_)
 refine Sq (RK hnt (nn 4 []) [(2, pB (decide (((p0.length : Nat) : Int) ≤ 600)))] [] tv ?_)
 obtain rfl := sj hm
 exact DW.ret (retK [] [] (pB (decide (((p0.length : Nat) : Int) ≤ 600))))
abbrev o2 (ks : List Nat) (b : Bool) (RES : Bool) : Orc := .call 15 ks b (pB RES) [] []

abbrev c5e1 := ({ id := 1, parent := 0, name := ByteArray.empty, control := 0, kind := 0, owner := 0 } : Node)
theorem New_ref5Spec (RES : Tree) (hm : New_ref5 = some RES) : Spec Tryz.prog 121 [] [] (.agg [ow 0 RES.nodes.length, pI RES.next]) [] [roNode RES.nodes] := by
 unfold New_ref5 at hm
 refine SO Tryz.func121 rfl rfl [] [] ?_
 intro cx hnt
 refine Sq (RK hnt (.no :: []) [(0, rr 1000)] [(1000, bx [.p (.sl .nil 0 0 (fun _ => [])), pI 0])] tv ?_)
 refine Sq (RN hnt (nn 4 []) [(0, rr 1000)] [(1000, bx [ow 1016 [(c5e1)].length, pI 2]), (1016, ob0 (roNode [(c5e1)]))] [] [(1000, .box [ow 1016 1, pI 2]), (1016, .row 6 1 (cut 6 [vi 1, vi 0, vs ByteArray.empty, vi 0, vi 0, vi 0]))] tv (by kernel_rfl) .nil (.cons rfl (.box (.cons (MLe.ownLen (enc := encNode) (d := dNode) (f := (cut 6 [vi 1, vi 0, vs ByteArray.empty, vi 0, vi 0, vi 0])) (RowIs.lit (enc := encNode) (d := dNode) (n := 1) (f := (cut 6 [vi 1, vi 0, vs ByteArray.empty, vi 0, vi 0, vi 0])) [(c5e1)] rfl (fun | 0, _ => rfl | n + 1, h => absurd h (by omega)))) (.cons .rfl .nil))) (.cons rfl (BLe.typed (RowIs.lit (enc := encNode) (d := dNode) (n := 1) (f := (cut 6 [vi 1, vi 0, vs ByteArray.empty, vi 0, vi 0, vi 0])) [(c5e1)] rfl (fun | 0, _ => rfl | n + 1, h => absurd h (by omega)))) .nil)) ?_)
 obtain rfl := sj hm
 exact DW.ret (retK [roNode [(c5e1)]] [1016] (.agg [ow 0 [(c5e1)].length, pI 2]))
abbrev o5 (ks : List Nat) (b : Bool) (RES : Tree) : Orc := .call 121 ks b (.agg [ow 0 RES.nodes.length, pI RES.next]) [] [roNode RES.nodes]

theorem New_ref6Spec (RES : Hierarchy) (hm : New_ref6 = some RES) : Spec Tryz.prog 70 [] [] (.agg [ow 0 RES.tree.nodes.length, pI RES.tree.next, ow 1 RES.tasks.length, pI RES.next]) [] [roNode RES.tree.nodes, roTask RES.tasks] := by
 unfold New_ref6 at hm
 refine SO Tryz.func70 rfl rfl [] [] ?_
 intro cx hnt
 refine Sq (RK hnt (.no :: []) [(0, rr 1000)] [(1000, bx [.p (.sl .nil 0 0 (fun _ => [])), pI 0, .p (.sl .nil 0 0 (fun _ => [])), pI 0])] tv ?_)
 obtain ⟨r1, hr1, hm⟩ := bo hm
 refine Sq (RK hnt (o5 [] true r1 :: nn 2 []) [(0, rr 1000)] [(1000, bx [ow 1008 r1.nodes.length, pI r1.next, .p (.sl .nil 0 0 (fun _ => [])), pI 1]), (1008, ob0 (roNode r1.nodes))] (an (New_ref5Spec r1 hr1) tv) ?_)
 refine DW.cv [] [] [] [(1000, bx [ow 1008 r1.nodes.length, pI r1.next, ow 100000 0, pI 1]), (100000, ob0 (roTask []))] (Conv.ads [(.o 1000 2, 100000, 4, elems encTask dTask [])]) ?_
 obtain rfl := sj hm
 exact DW.ret (retK [roNode r1.nodes, roTask []] [1008, 100000] (.agg [ow 0 r1.nodes.length, pI r1.next, ow 1 0, pI 1]))
abbrev o4 (ks : List Nat) (b : Bool) (RES : Hierarchy) : Orc := .call 70 ks b (.agg [ow 0 RES.tree.nodes.length, pI RES.tree.next, ow 1 RES.tasks.length, pI RES.next]) [] [roNode RES.tree.nodes, roTask RES.tasks]

abbrev c12e1 (p0 : ByteArray) (k1 : Int) : Nat × MV := (57, pB (!((((byteAt p0 (Int.toNat k1)) : Nat) : Int) == 45)))
theorem Valid_ref1Spec (p0 : ByteArray) (RES : Bool) (hm : Valid_ref1 p0 = some RES) : Spec Tryz.prog 144 [pS p0] [] (pB RES) [] [] := by
 unfold Valid_ref1 at hm
 refine SO Tryz.func144 rfl rfl [(0, pS p0)] [] ?_
 intro cx hnt
 refine Sq (RK hnt (.no :: []) [(0, pS p0)] [] tv ?_)
 refine Sq (Sq ?_)
 refine Jn (ι := Bool) (fun (y1 : Bool) => mkSt [(0, pS p0), (17, pB y1)] []) (fun y1 => (Valid_ref1J1 p0) y1 = some RES) ?_ ?_
 ·intro y1 hm
  unfold Valid_ref1J1 at hm
  refine condM hm ?_ ?_
  ·intro h4 hm
   refine Sq (RK hnt (.no :: []) [(2, pB false)] [] tv ?_)
   obtain rfl := sj hm
   exact DW.ret (retK [] [] (pB false))
  ·intro h4 hm
   refine Sk ?_
   refine Sq (Sq (RK hnt (.no :: []) [(0, pS p0), (3, pI 0)] [] tv ?_))
   refine Bk ?_
   obtain ⟨hc1, hm⟩ := go1 hm
   refine DW.forO (fun (k1 : Int) (s1 : Unit) => mkSt [(0, pS p0), (3, pI k1)] []) (lo := 0) (hi := ((p0.size : Nat) : Int)) hm .refl ?_
   intro k1 s1 n1 hk1 hs1 he1
   refine Sq (Sq (RD hnt (nn 4 []) [] [(21, pB (decide (k1 < ((p0.size : Nat) : Int))))] [] [] tv ?_))
   refine condK (decide (k1 < ((p0.size : Nat) : Int))) ?_ ?_
   ·intro h55
    have hlt1 : k1 < ((p0.size : Nat) : Int) := by have := of_decide_eq_true h55; omega
    have hm := hs1 hlt1
    unfold Valid_ref1L1 at hm
    refine Sk ?_
    refine Sq (Bk ?_)
    obtain ⟨g56, hm⟩ := go1 hm
    refine Sq (RD hnt (nn 4 []) [21] [(4, .p (vk .u8 (((byteAt p0 (Int.toNat k1)) : Nat) : Int)))] [] [] (an g56.1 (an g56.2 tv)) ?_)
    refine Sq (DW.regJ (sl2 := [(0, pS p0), (3, pI k1), (57, pB (!((((((decide ((((byteAt p0 (Int.toNat k1)) : Nat) : Int) ≥ 97)) && (decide ((((byteAt p0 (Int.toNat k1)) : Nat) : Int) ≤ 122))) || ((decide ((((byteAt p0 (Int.toNat k1)) : Nat) : Int) ≥ 65)) && (decide ((((byteAt p0 (Int.toNat k1)) : Nat) : Int) ≤ 90)))) || ((decide ((((byteAt p0 (Int.toNat k1)) : Nat) : Int) ≥ 48)) && (decide ((((byteAt p0 (Int.toNat k1)) : Nat) : Int) ≤ 57)))) || ((((byteAt p0 (Int.toNat k1)) : Nat) : Int) == 95)) || ((((byteAt p0 (Int.toNat k1)) : Nat) : Int) == 45))))]) (ob2 := []) ?_ ?_)
    ·rcases bt (decide ((((byteAt p0 (Int.toNat k1)) : Nat) : Int) ≥ 97)) with h57 | h57
     ·rcases bt (decide ((((byteAt p0 (Int.toNat k1)) : Nat) : Int) ≤ 122)) with h58 | h58
      ·exact RT hnt (nn 5 (pT :: .no :: sk 6 (pT :: .no :: sk 6 (pT :: .no :: sk 2 (pT :: .no :: sk 2 (pT :: .no :: [])))))) [(57, pB false)] (an3 h57 (an5 h58 (an5 tt (an6 tt tv)))) (by kernel_rfl) (.cons rfl (.of_eq (by rw [h57, h58]; try rfl)) .nil)
      ·rcases bt (decide ((((byteAt p0 (Int.toNat k1)) : Nat) : Int) ≥ 65)) with h59 | h59
       ·rcases bt (decide ((((byteAt p0 (Int.toNat k1)) : Nat) : Int) ≤ 90)) with h60 | h60
        ·exact RT hnt (nn 5 (pT :: nn 6 (pT :: pF :: .no :: sk 6 (pT :: .no :: sk 2 (pT :: .no :: sk 2 (pT :: .no :: [])))))) [(57, pB false)] (an3 h57 (an3 h58 (an2 h59 (an h58 (an h59 (an h58 (an5 h60 (an6 tt tv)))))))) (by kernel_rfl) (.cons rfl (.of_eq (by rw [h57, h58, h59, h60]; try rfl)) .nil)
        ·rcases bt (decide ((((byteAt p0 (Int.toNat k1)) : Nat) : Int) ≥ 48)) with h61 | h61
         ·rcases bt (decide ((((byteAt p0 (Int.toNat k1)) : Nat) : Int) ≤ 57)) with h62 | h62
          ·exact RT hnt (nn 5 (pT :: nn 6 (pT :: pF :: nn 6 (pT :: pF :: .no :: sk 2 (pT :: .no :: sk 2 (pT :: .no :: [])))))) [(57, pB false)] (an3 h57 (an3 h58 (an2 h59 (an h58 (an h59 (an h58 (an3 h60 (an2 h61 (an h60 (an h61 (an h60 (an3 h62 (an3 tt tv))))))))))))) (by kernel_rfl) (.cons rfl (.of_eq (by rw [h57, h58, h59, h60, h61, h62]; try rfl)) .nil)
          ·rcases bt ((((byteAt p0 (Int.toNat k1)) : Nat) : Int) == 95) with h63 | h63
           ·exact RT hnt (nn 5 (pT :: nn 6 (pT :: pF :: nn 6 (pT :: pF :: nn 3 (pF :: .no :: sk 2 (pT :: .no :: [])))))) [(57, pB false)] (an3 h57 (an3 h58 (an2 h59 (an h58 (an h59 (an h58 (an3 h60 (an2 h61 (an h60 (an h61 (an h60 (an3 h62 (an3 h63 tv))))))))))))) (by kernel_rfl) (.cons rfl (.of_eq (by rw [h57, h58, h59, h60, h61, h62, h63]; try rfl)) .nil)
           ·exact RT hnt (nn 5 (pT :: nn 6 (pT :: pF :: nn 6 (pT :: pF :: nn 3 (pF :: nn 3 (pF :: .no :: [])))))) [(c12e1 p0 k1)] (an3 h57 (an3 h58 (an2 h59 (an h58 (an h59 (an h58 (an3 h60 (an2 h61 (an h60 (an h61 (an h60 (an3 h62 (an3 h63 tv))))))))))))) (by kernel_rfl) (.cons rfl (.of_eq (by rw [h57, h58, h59, h60, h61, h62, h63]; try rfl)) .nil)
         ·rcases bt ((((byteAt p0 (Int.toNat k1)) : Nat) : Int) == 95) with h64 | h64
          ·exact RT hnt (nn 5 (pT :: nn 6 (pT :: pF :: nn 4 (sk 2 (pF :: pF :: nn 3 (pF :: .no :: sk 2 (pT :: .no :: []))))))) [(57, pB false)] (an3 h57 (an3 h58 (an2 h59 (an h58 (an h59 (an h58 (an3 h60 (an2 h61 (an h60 (an h61 (an h60 (an3 ff (an3 h64 tv))))))))))))) (by kernel_rfl) (.cons rfl (.of_eq (by rw [h57, h58, h59, h60, h61, h64]; try rfl)) .nil)
          ·exact RT hnt (nn 5 (pT :: nn 6 (pT :: pF :: nn 4 (sk 2 (pF :: pF :: nn 3 (pF :: nn 3 (pF :: .no :: []))))))) [(c12e1 p0 k1)] (an3 h57 (an3 h58 (an2 h59 (an h58 (an h59 (an h58 (an3 h60 (an2 h61 (an h60 (an h61 (an h60 (an3 ff (an3 h64 tv))))))))))))) (by kernel_rfl) (.cons rfl (.of_eq (by rw [h57, h58, h59, h60, h61, h64]; try rfl)) .nil)
       ·rcases bt (decide ((((byteAt p0 (Int.toNat k1)) : Nat) : Int) ≥ 48)) with h65 | h65
        ·rcases bt (decide ((((byteAt p0 (Int.toNat k1)) : Nat) : Int) ≤ 57)) with h66 | h66
         ·exact RT hnt (nn 5 (pT :: nn 4 (sk 2 (pF :: pF :: nn 6 (pT :: pF :: .no :: sk 2 (pT :: .no :: sk 2 (pT :: .no :: []))))))) [(57, pB false)] (an3 h57 (an3 h58 (an2 h59 (an h58 (an h59 (an h58 (an3 ff (an2 h65 (an ff (an h65 (an ff (an3 h66 (an3 tt tv))))))))))))) (by kernel_rfl) (.cons rfl (.of_eq (by rw [h57, h58, h59, h65, h66]; try rfl)) .nil)
         ·rcases bt ((((byteAt p0 (Int.toNat k1)) : Nat) : Int) == 95) with h67 | h67
          ·exact RT hnt (nn 5 (pT :: nn 4 (sk 2 (pF :: pF :: nn 6 (pT :: pF :: nn 3 (pF :: .no :: sk 2 (pT :: .no :: []))))))) [(57, pB false)] (an3 h57 (an3 h58 (an2 h59 (an h58 (an h59 (an h58 (an3 ff (an2 h65 (an ff (an h65 (an ff (an3 h66 (an3 h67 tv))))))))))))) (by kernel_rfl) (.cons rfl (.of_eq (by rw [h57, h58, h59, h65, h66, h67]; try rfl)) .nil)
          ·exact RT hnt (nn 5 (pT :: nn 4 (sk 2 (pF :: pF :: nn 6 (pT :: pF :: nn 3 (pF :: nn 3 (pF :: .no :: []))))))) [(c12e1 p0 k1)] (an3 h57 (an3 h58 (an2 h59 (an h58 (an h59 (an h58 (an3 ff (an2 h65 (an ff (an h65 (an ff (an3 h66 (an3 h67 tv))))))))))))) (by kernel_rfl) (.cons rfl (.of_eq (by rw [h57, h58, h59, h65, h66, h67]; try rfl)) .nil)
        ·rcases bt ((((byteAt p0 (Int.toNat k1)) : Nat) : Int) == 95) with h68 | h68
         ·exact RT hnt (nn 5 (pT :: nn 4 (sk 2 (pF :: pF :: nn 4 (sk 2 (pF :: pF :: nn 3 (pF :: .no :: sk 2 (pT :: .no :: [])))))))) [(57, pB false)] (an3 h57 (an3 h58 (an2 h59 (an h58 (an h59 (an h58 (an3 ff (an2 h65 (an ff (an h65 (an4 ff (an3 h68 tv)))))))))))) (by kernel_rfl) (.cons rfl (.of_eq (by rw [h57, h58, h59, h65, h68]; try rfl)) .nil)
         ·exact RT hnt (nn 5 (pT :: nn 4 (sk 2 (pF :: pF :: nn 4 (sk 2 (pF :: pF :: nn 3 (pF :: nn 3 (pF :: .no :: [])))))))) [(c12e1 p0 k1)] (an3 h57 (an3 h58 (an2 h59 (an h58 (an h59 (an h58 (an3 ff (an2 h65 (an ff (an h65 (an4 ff (an3 h68 tv)))))))))))) (by kernel_rfl) (.cons rfl (.of_eq (by rw [h57, h58, h59, h65, h68]; try rfl)) .nil)
     ·rcases bt (decide ((((byteAt p0 (Int.toNat k1)) : Nat) : Int) ≥ 65)) with h69 | h69
      ·rcases bt (decide ((((byteAt p0 (Int.toNat k1)) : Nat) : Int) ≤ 90)) with h70 | h70
       ·exact RT hnt (nn 3 (sk 2 (pF :: nn 6 (pT :: pF :: .no :: sk 6 (pT :: .no :: sk 2 (pT :: .no :: sk 2 (pT :: .no :: []))))))) [(57, pB false)] (an3 h57 (an3 ff (an2 h69 (an ff (an h69 (an ff (an5 h70 (an6 tt tv)))))))) (by kernel_rfl) (.cons rfl (.of_eq (by rw [h57, h69, h70]; try rfl)) .nil)
       ·rcases bt (decide ((((byteAt p0 (Int.toNat k1)) : Nat) : Int) ≥ 48)) with h71 | h71
        ·rcases bt (decide ((((byteAt p0 (Int.toNat k1)) : Nat) : Int) ≤ 57)) with h72 | h72
         ·exact RT hnt (nn 3 (sk 2 (pF :: nn 6 (pT :: pF :: nn 6 (pT :: pF :: .no :: sk 2 (pT :: .no :: sk 2 (pT :: .no :: []))))))) [(57, pB false)] (an3 h57 (an3 ff (an2 h69 (an ff (an h69 (an ff (an3 h70 (an2 h71 (an h70 (an h71 (an h70 (an3 h72 (an3 tt tv))))))))))))) (by kernel_rfl) (.cons rfl (.of_eq (by rw [h57, h69, h70, h71, h72]; try rfl)) .nil)
         ·rcases bt ((((byteAt p0 (Int.toNat k1)) : Nat) : Int) == 95) with h73 | h73
          ·exact RT hnt (nn 3 (sk 2 (pF :: nn 6 (pT :: pF :: nn 6 (pT :: pF :: nn 3 (pF :: .no :: sk 2 (pT :: .no :: []))))))) [(57, pB false)] (an3 h57 (an3 ff (an2 h69 (an ff (an h69 (an ff (an3 h70 (an2 h71 (an h70 (an h71 (an h70 (an3 h72 (an3 h73 tv))))))))))))) (by kernel_rfl) (.cons rfl (.of_eq (by rw [h57, h69, h70, h71, h72, h73]; try rfl)) .nil)
          ·exact RT hnt (nn 3 (sk 2 (pF :: nn 6 (pT :: pF :: nn 6 (pT :: pF :: nn 3 (pF :: nn 3 (pF :: .no :: []))))))) [(c12e1 p0 k1)] (an3 h57 (an3 ff (an2 h69 (an ff (an h69 (an ff (an3 h70 (an2 h71 (an h70 (an h71 (an h70 (an3 h72 (an3 h73 tv))))))))))))) (by kernel_rfl) (.cons rfl (.of_eq (by rw [h57, h69, h70, h71, h72, h73]; try rfl)) .nil)
        ·rcases bt ((((byteAt p0 (Int.toNat k1)) : Nat) : Int) == 95) with h74 | h74
         ·exact RT hnt (nn 3 (sk 2 (pF :: nn 6 (pT :: pF :: nn 4 (sk 2 (pF :: pF :: nn 3 (pF :: .no :: sk 2 (pT :: .no :: [])))))))) [(57, pB false)] (an3 h57 (an3 ff (an2 h69 (an ff (an h69 (an ff (an3 h70 (an2 h71 (an h70 (an h71 (an h70 (an3 ff (an3 h74 tv))))))))))))) (by kernel_rfl) (.cons rfl (.of_eq (by rw [h57, h69, h70, h71, h74]; try rfl)) .nil)
         ·exact RT hnt (nn 3 (sk 2 (pF :: nn 6 (pT :: pF :: nn 4 (sk 2 (pF :: pF :: nn 3 (pF :: nn 3 (pF :: .no :: [])))))))) [(c12e1 p0 k1)] (an3 h57 (an3 ff (an2 h69 (an ff (an h69 (an ff (an3 h70 (an2 h71 (an h70 (an h71 (an h70 (an3 ff (an3 h74 tv))))))))))))) (by kernel_rfl) (.cons rfl (.of_eq (by rw [h57, h69, h70, h71, h74]; try rfl)) .nil)
      ·rcases bt (decide ((((byteAt p0 (Int.toNat k1)) : Nat) : Int) ≥ 48)) with h75 | h75
       ·rcases bt (decide ((((byteAt p0 (Int.toNat k1)) : Nat) : Int) ≤ 57)) with h76 | h76
        ·exact RT hnt (nn 3 (sk 2 (pF :: nn 4 (sk 2 (pF :: pF :: nn 6 (pT :: pF :: .no :: sk 2 (pT :: .no :: sk 2 (pT :: .no :: [])))))))) [(57, pB false)] (an3 h57 (an3 ff (an2 h69 (an ff (an h69 (an4 ff (an2 h75 (an ff (an h75 (an ff (an3 h76 (an3 tt tv)))))))))))) (by kernel_rfl) (.cons rfl (.of_eq (by rw [h57, h69, h75, h76]; try rfl)) .nil)
        ·rcases bt ((((byteAt p0 (Int.toNat k1)) : Nat) : Int) == 95) with h77 | h77
         ·exact RT hnt (nn 3 (sk 2 (pF :: nn 4 (sk 2 (pF :: pF :: nn 6 (pT :: pF :: nn 3 (pF :: .no :: sk 2 (pT :: .no :: [])))))))) [(57, pB false)] (an3 h57 (an3 ff (an2 h69 (an ff (an h69 (an4 ff (an2 h75 (an ff (an h75 (an ff (an3 h76 (an3 h77 tv)))))))))))) (by kernel_rfl) (.cons rfl (.of_eq (by rw [h57, h69, h75, h76, h77]; try rfl)) .nil)
         ·exact RT hnt (nn 3 (sk 2 (pF :: nn 4 (sk 2 (pF :: pF :: nn 6 (pT :: pF :: nn 3 (pF :: nn 3 (pF :: .no :: [])))))))) [(c12e1 p0 k1)] (an3 h57 (an3 ff (an2 h69 (an ff (an h69 (an4 ff (an2 h75 (an ff (an h75 (an ff (an3 h76 (an3 h77 tv)))))))))))) (by kernel_rfl) (.cons rfl (.of_eq (by rw [h57, h69, h75, h76, h77]; try rfl)) .nil)
       ·rcases bt ((((byteAt p0 (Int.toNat k1)) : Nat) : Int) == 95) with h78 | h78
        ·exact RT hnt (nn 3 (sk 2 (pF :: nn 4 (sk 2 (pF :: pF :: nn 4 (sk 2 (pF :: pF :: nn 3 (pF :: .no :: sk 2 (pT :: .no :: []))))))))) [(57, pB false)] (an3 h57 (an3 ff (an2 h69 (an ff (an h69 (an4 ff (an2 h75 (an ff (an h75 (an4 ff (an3 h78 tv))))))))))) (by kernel_rfl) (.cons rfl (.of_eq (by rw [h57, h69, h75, h78]; try rfl)) .nil)
        ·exact RT hnt (nn 3 (sk 2 (pF :: nn 4 (sk 2 (pF :: pF :: nn 4 (sk 2 (pF :: pF :: nn 3 (pF :: nn 3 (pF :: .no :: []))))))))) [(c12e1 p0 k1)] (an3 h57 (an3 ff (an2 h69 (an ff (an h69 (an4 ff (an2 h75 (an ff (an h75 (an4 ff (an3 h78 tv))))))))))) (by kernel_rfl) (.cons rfl (.of_eq (by rw [h57, h69, h75, h78]; try rfl)) .nil)
    ·refine condM hm ?_ ?_
     ·intro h79 hm
      refine Sq (RK hnt (.no :: []) [(2, pB false)] [] tv ?_)
      obtain rfl := sj hm
      exact DW.ret (retK [] [] (pB false))
     ·intro h79 hm
      refine Sk ?_
      refine DW.done ?_
      show DW _ _ _ _ _
      refine RK hnt (nn 3 []) [(0, pS p0), (3, pI (w64 (k1 + 1)))] [] tv ?_
      exact jD () ⟨hlt1, hm⟩ (Conv.tp [(3, pI (w64 (k1 + 1)))] [] (by kernel_rfl) (.cons rfl (.of_eq (congrArg pI (w64_for (lo := 0) (hi := ((p0.size : Nat) : Int)) (by omega) hk1 hlt1 (by omega)))) .nil) .nil)
   ·intro h55
    have hge1 : ¬ k1 < ((p0.size : Nat) : Int) := by have := of_decide_eq_false h55; omega
    have hm := he1 hge1
    unfold Valid_ref1D1 at hm
    refine DW.exit ?_
    refine joinQ_exit ?_
    refine KQ_exit ?_
    refine blockQ_exit ?_
    show DW _ _ _ _ _
    refine Sq (RK hnt (.no :: []) [(2, pB true)] [] tv ?_)
    obtain rfl := sj hm
    exact DW.ret (retK [] [] (pB true))
 ·rcases bt (((p0.size : Nat) : Int) == 0) with h1 | h1
  ·replace hm := if_t h1 hm
   refine RK hnt (nn 4 (sk 3 (pT :: .no :: sk 3 (pT :: [])))) [(0, pS p0), (17, pB true)] [] (an4 h1 (an4 tt tv)) ?_
   exact jD true hm .refl
  ·replace hm := if_f h1 hm
   rcases bt (decide (((p0.size : Nat) : Int) > 32)) with h2 | h2
   ·replace hm := if_t h2 hm
    refine RK hnt (nn 7 (pF :: .no :: sk 3 (pT :: []))) [(0, pS p0), (17, pB true)] [] (an4 h1 (an4 h2 tv)) ?_
    exact jD true hm .refl
   ·replace hm := if_f h2 hm
    obtain ⟨g3, hm⟩ := go1 hm
    refine RK hnt (nn 7 (pF :: nn 4 (pF :: []))) [(0, pS p0), (17, pB ((((byteAt p0 0) : Nat) : Int) == 45))] [] (an4 h1 (an2 h2 (an (nn0 0) (an (ltc g3) (an2 h2 tv))))) ?_
    exact jD ((((byteAt p0 0) : Nat) : Int) == 45) hm .refl
abbrev o12 (ks : List Nat) (b : Bool) (RES : Bool) : Orc := .call 144 ks b (pB RES) [] []

abbrev c11e1 (p0 : Tree) (p1 : Int) := (p0.nodes.getD (Int.toNat p1) dNode)
abbrev c11e2 (p0 : Tree) (p1 : Int) : Nat × Obj := (1040, bx (pm (encNode (c11e1 p0 p1))))
abbrev c11e3 (p0 : Tree) : Nat × Obj := (1016, bx (pm (encTree p0)))
abbrev c11e4 (p0 : Tree) (k1 : Int) := (p0.nodes.getD (Int.toNat k1) dNode)
theorem node_ref5Spec (p0 : Tree) (p1 : Int) (RES : Bool) (hm : node_ref5 p0 p1 = some RES) : Spec Tryz.prog 135 [.p (.agg (encTree p0)), pI p1] [] (pB RES) [] [] := by
 unfold node_ref5 at hm
 refine SO Tryz.func135 rfl rfl [(0, .p (.agg (encTree p0))), (1, pI p1)] [] ?_
 intro cx hnt
 refine Sq (RK hnt (nn 2 []) [(1, pI p1), (2, rr 1016)] [(c11e3 p0)] tv ?_)
 obtain ⟨g1, hm⟩ := go1 hm
 refine Sq (RD hnt (nn 7 []) [] [(5, rr 1040)] [] [(c11e2 p0 p1)] (an g1.1 (an g1.2 tv)) ?_)
 refine Sq (Sq (DW.regJ (sl2 := [(1, pI p1), (2, rr 1016), (5, rr 1040), (40, pB (((((((c11e1 p0 p1).kind != 0) && ((c11e1 p0 p1).kind != 1)) || (decide ((c11e1 p0 p1).control < 0))) || (decide ((c11e1 p0 p1).control > 31))) || (decide ((c11e1 p0 p1).owner < 0))) || (decide ((c11e1 p0 p1).owner > 1048576))))]) (ob2 := [(c11e3 p0), (c11e2 p0 p1)]) ?_ ?_))
 ·rcases bt ((c11e1 p0 p1).kind != 0) with h2 | h2
  ·rcases bt ((c11e1 p0 p1).kind != 1) with h3 | h3
   ·exact RT hnt (nn 7 (pT :: .no :: sk 3 (pT :: .no :: sk 3 (pT :: .no :: sk 3 (pT :: .no :: sk 3 (pT :: [])))))) [(40, pB true)] (an4 h2 (an4 h3 (an6 tt (an6 tt tv)))) (by kernel_rfl) (.cons rfl (.of_eq (by rw [h2, h3]; try rfl)) .nil)
   ·rcases bt (decide ((c11e1 p0 p1).control < 0)) with h4 | h4
    ·exact RT hnt (nn 7 (pT :: nn 4 (pF :: .no :: sk 3 (pT :: .no :: sk 3 (pT :: .no :: sk 3 (pT :: [])))))) [(40, pB true)] (an4 h2 (an4 h3 (an4 h4 (an2 tt (an6 tt tv))))) (by kernel_rfl) (.cons rfl (.of_eq (by rw [h2, h3, h4]; try rfl)) .nil)
    ·rcases bt (decide ((c11e1 p0 p1).control > 31)) with h5 | h5
     ·exact RT hnt (nn 7 (pT :: nn 4 (pF :: nn 4 (pF :: .no :: sk 3 (pT :: .no :: sk 3 (pT :: [])))))) [(40, pB true)] (an4 h2 (an4 h3 (an4 h4 (an4 h5 (an4 tt tv))))) (by kernel_rfl) (.cons rfl (.of_eq (by rw [h2, h3, h4, h5]; try rfl)) .nil)
     ·rcases bt (decide ((c11e1 p0 p1).owner < 0)) with h6 | h6
      ·exact RT hnt (nn 7 (pT :: nn 4 (pF :: nn 4 (pF :: nn 4 (pF :: .no :: sk 3 (pT :: [])))))) [(40, pB true)] (an4 h2 (an4 h3 (an4 h4 (an4 h5 (an4 h6 tv))))) (by kernel_rfl) (.cons rfl (.of_eq (by rw [h2, h3, h4, h5, h6]; try rfl)) .nil)
      ·exact RT hnt (nn 7 (pT :: nn 4 (pF :: nn 4 (pF :: nn 4 (pF :: nn 4 (pF :: [])))))) [(40, pB (decide ((c11e1 p0 p1).owner > 1048576)))] (an4 h2 (an4 h3 (an4 h4 (an4 h5 (an4 h6 tv))))) (by kernel_rfl) (.cons rfl (.of_eq (by rw [h2, h3, h4, h5, h6]; try rfl)) .nil)
  ·rcases bt (decide ((c11e1 p0 p1).control < 0)) with h7 | h7
   ·exact RT hnt (nn 4 (sk 3 (pF :: nn 4 (pF :: .no :: sk 3 (pT :: .no :: sk 3 (pT :: .no :: sk 3 (pT :: []))))))) [(40, pB true)] (an4 h2 (an4 ff (an4 h7 (an2 tt (an6 tt tv))))) (by kernel_rfl) (.cons rfl (.of_eq (by rw [h2, h7]; try rfl)) .nil)
   ·rcases bt (decide ((c11e1 p0 p1).control > 31)) with h8 | h8
    ·exact RT hnt (nn 4 (sk 3 (pF :: nn 4 (pF :: nn 4 (pF :: .no :: sk 3 (pT :: .no :: sk 3 (pT :: []))))))) [(40, pB true)] (an4 h2 (an4 ff (an4 h7 (an4 h8 (an4 tt tv))))) (by kernel_rfl) (.cons rfl (.of_eq (by rw [h2, h7, h8]; try rfl)) .nil)
    ·rcases bt (decide ((c11e1 p0 p1).owner < 0)) with h9 | h9
     ·exact RT hnt (nn 4 (sk 3 (pF :: nn 4 (pF :: nn 4 (pF :: nn 4 (pF :: .no :: sk 3 (pT :: []))))))) [(40, pB true)] (an4 h2 (an4 ff (an4 h7 (an4 h8 (an4 h9 tv))))) (by kernel_rfl) (.cons rfl (.of_eq (by rw [h2, h7, h8, h9]; try rfl)) .nil)
     ·exact RT hnt (nn 4 (sk 3 (pF :: nn 4 (pF :: nn 4 (pF :: nn 4 (pF :: nn 4 (pF :: []))))))) [(40, pB (decide ((c11e1 p0 p1).owner > 1048576)))] (an4 h2 (an4 ff (an4 h7 (an4 h8 (an4 h9 tv))))) (by kernel_rfl) (.cons rfl (.of_eq (by rw [h2, h7, h8, h9]; try rfl)) .nil)
 ·refine condM hm ?_ ?_
  ·intro h10 hm
   refine Sq (RK hnt (.no :: []) [(4, pB false)] [] tv ?_)
   obtain rfl := sj hm
   exact DW.ret (retK [] [] (pB false))
  ·intro h10 hm
   refine Sk ?_
   refine Sq (Sq (RD hnt (nn 2 []) [40] [(42, pB (p1 == 0))] [] [] tv ?_))
   refine condM hm ?_ ?_
   ·intro h11 hm
    refine Sq (DW.regJ (sl2 := [(4, pB (((((c11e1 p0 p1).id == 1) && ((c11e1 p0 p1).parent == 0)) && (beqS (c11e1 p0 p1).name ByteArray.empty)) && ((c11e1 p0 p1).kind == 0)))]) (ob2 := []) ?_ ?_)
    ·rcases bt ((c11e1 p0 p1).id == 1) with h12 | h12
     ·rcases bt ((c11e1 p0 p1).parent == 0) with h13 | h13
      ·rcases bt (beqS (c11e1 p0 p1).name ByteArray.empty) with h14 | h14
       ·exact RT hnt (nn 7 (pT :: nn 4 (pT :: nn 4 (pT :: .no :: [])))) [(4, pB ((c11e1 p0 p1).kind == 0))] (an4 h12 (an4 h13 (an4 h14 tv))) (by kernel_rfl) (.cons rfl (.of_eq (by rw [h12, h13, h14]; try rfl)) .nil)
       ·exact RT hnt (nn 7 (pT :: nn 4 (pT :: .no :: sk 3 (pF :: .no :: [])))) [(4, pB false)] (an4 h12 (an4 h13 (an4 h14 tv))) (by kernel_rfl) (.cons rfl (.of_eq (by rw [h12, h13, h14]; try rfl)) .nil)
      ·exact RT hnt (nn 7 (pT :: .no :: sk 3 (pF :: .no :: sk 3 (pF :: .no :: [])))) [(4, pB false)] (an4 h12 (an4 h13 (an4 ff tv))) (by kernel_rfl) (.cons rfl (.of_eq (by rw [h12, h13]; try rfl)) .nil)
     ·exact RT hnt (nn 4 (sk 3 (pF :: .no :: sk 3 (pF :: .no :: sk 3 (pF :: .no :: []))))) [(4, pB false)] (an4 h12 (an2 ff (an6 ff tv))) (by kernel_rfl) (.cons rfl (.of_eq (by rw [h12]; try rfl)) .nil)
    ·refine DW.ret ?_
     obtain rfl := sj hm
     exact retK [] [] (pB (((((c11e1 p0 p1).id == 1) && ((c11e1 p0 p1).parent == 0)) && (beqS (c11e1 p0 p1).name ByteArray.empty)) && ((c11e1 p0 p1).kind == 0)))
   ·intro h11 hm
    refine Sk ?_
    obtain ⟨g15, hm⟩ := go1 hm
    refine Sq (Sq ?_)
    refine Jn (ι := Bool) (fun (y1 : Bool) => mkSt [(1, pI p1), (2, rr 1016), (5, rr 1040), (76, pB y1)] [(c11e3 p0), (c11e2 p0 p1)]) (fun y1 => (node_ref5J1 p0 p1) y1 = some RES) ?_ ?_
    ·intro y1 hm
     unfold node_ref5J1 at hm
     refine condM hm ?_ ?_
     ·intro h18 hm
      refine Sq (RK hnt (.no :: []) [(4, pB false)] [] tv ?_)
      obtain rfl := sj hm
      exact DW.ret (retK [] [] (pB false))
     ·intro h18 hm
      refine Sk ?_
      refine Sq (RD hnt (.no :: []) [76] [(6, pB false)] [] [] tv ?_)
      refine Sq (Sq (RD hnt (.no :: []) [] [(7, pI 0)] [] [] tv ?_))
      refine Bk ?_
      obtain ⟨hc1, hm⟩ := go1 hm
      refine DW.forO (fun (k1 : Int) (s1 : Bool) => mkSt [(1, pI p1), (2, rr 1016), (5, rr 1040), (6, pB s1), (7, pI k1)] [(c11e3 p0), (c11e2 p0 p1)]) (lo := 0) (hi := p1) hm Conv.eqK ?_
      intro k1 s1 n1 hk1 hs1 he1
      refine Sq (Sq (RD hnt (nn 3 []) [] [(79, pB (decide (k1 < p1)))] [] [] tv ?_))
      refine condK (decide (k1 < p1)) ?_ ?_
      ·intro h32
       have hlt1 : k1 < p1 := by have := of_decide_eq_true h32; omega
       have hm := hs1 hlt1
       unfold node_ref5L1 at hm
       refine Sk ?_
       refine Sq (Bk ?_)
       refine Sq ?_
       refine Jn (ι := Bool) (fun (y5 : Bool) => mkSt [(1, pI p1), (2, rr 1016), (5, rr 1040), (6, pB y5), (7, pI k1)] [(c11e3 p0), (c11e2 p0 p1)]) (fun y5 => (node_ref5J5 p0 p1 k1 n1) y5 = some RES) ?_ ?_
       ·intro y5 hm
        unfold node_ref5J5 at hm
        obtain ⟨g35, hm⟩ := go1 hm
        refine Sq ?_
        refine Jn (ι := Bool) (fun (y6 : Bool) => mkSt [(1, pI p1), (2, rr 1016), (5, rr 1040), (6, pB y5), (7, pI k1), (113, pB y6)] [(c11e3 p0), (c11e2 p0 p1)]) (fun y6 => (node_ref5J6 n1 y5) y6 = some RES) ?_ ?_
        ·intro y6 hm
         unfold node_ref5J6 at hm
         refine condM hm ?_ ?_
         ·intro h38 hm
          refine Sq (RK hnt (.no :: []) [(4, pB false)] [] tv ?_)
          obtain rfl := sj hm
          exact DW.ret (retK [] [] (pB false))
         ·intro h38 hm
          refine Sk ?_
          refine DW.done ?_
          show DW _ _ _ _ _
          refine RD hnt (nn 3 []) [113] [(7, pI (w64 (k1 + 1)))] [] [] tv ?_
          exact jD y5 ⟨hlt1, hm⟩ (Conv.tp [(7, pI (w64 (k1 + 1)))] [] (by kernel_rfl) (.cons rfl (.of_eq (congrArg pI (w64_for (lo := 0) (hi := p1) (by omega) hk1 hlt1 (by omega)))) .nil) .nil)
        ·rcases bt ((c11e4 p0 k1).parent == (c11e1 p0 p1).parent) with h36 | h36
         ·replace hm := if_t h36 hm
          obtain ⟨g37, hm⟩ := go1 hm
          refine RD hnt (nn 19 (pT :: [])) [] [(113, pB (beqS (c11e4 p0 k1).name (c11e1 p0 p1).name))] [] [] (an g35.1 (an g35.2 (an4 h36 (an g37.1 (an g37.2 (an6 h36 tv)))))) ?_
          exact jD (beqS (c11e4 p0 k1).name (c11e1 p0 p1).name) hm Conv.eqK
         ·replace hm := if_f h36 hm
          refine RD hnt (nn 10 (sk 9 (pF :: []))) [] [(113, pB false)] [] [] (an g35.1 (an g35.2 (an4 h36 (an6 h36 tv)))) ?_
          exact jD false hm Conv.eqK
       ·rcases bt s1 with h33 | h33
        ·replace hm := if_t h33 hm
         refine RD hnt (nn 2 (sk 9 (pT :: .no :: []))) [79] [(6, pB true)] [] [] (an4 h33 (an6 h33 tv)) ?_
         exact jD true hm Conv.eqK
        ·replace hm := if_f h33 hm
         obtain ⟨g34, hm⟩ := go1 hm
         refine RD hnt (nn 11 (pF :: .no :: [])) [79] [(6, pB ((c11e4 p0 k1).id == (c11e1 p0 p1).parent))] [] [] (an4 h33 (an g34.1 (an g34.2 (an6 h33 tv)))) ?_
         exact jD ((c11e4 p0 k1).id == (c11e1 p0 p1).parent) hm Conv.eqK
      ·intro h32
       have hge1 : ¬ k1 < p1 := by have := of_decide_eq_false h32; omega
       have hm := he1 hge1
       unfold node_ref5D1 at hm
       refine DW.exit ?_
       refine joinQ_exit ?_
       refine KQ_exit ?_
       refine blockQ_exit ?_
       show DW _ _ _ _ _
       refine Sq (RK hnt (nn 2 []) [(4, pB s1)] [] tv ?_)
       obtain rfl := sj hm
       exact DW.ret (retK [] [] (pB s1))
    ·rcases bt (decide ((c11e1 p0 p1).id ≤ (p0.nodes.getD (Int.toNat (w64 (p1 - 1))) dNode).id)) with h16 | h16
     ·replace hm := if_t h16 hm
      refine RD hnt (nn 11 (sk 4 (pT :: []))) [42] [(76, pB true)] [] [] (an g15.1 (an g15.2 (an5 h16 tv))) ?_
      exact jD true hm Conv.eqK
     ·replace hm := if_f h16 hm
      obtain ⟨r17, hr17, hm⟩ := bo hm
      refine RD hnt (nn 13 (o12 [] true r17 :: .no :: pF :: [])) [42] [(76, pB (!r17))] [] [] (an g15.1 (an g15.2 (an3 h16 (an (Valid_ref1Spec (c11e1 p0 p1).name r17 hr17) (an2 h16 tv))))) ?_
      exact jD (!r17) hm Conv.eqK
abbrev o11 (ks : List Nat) (b : Bool) (RES : Bool) : Orc := .call 135 ks b (pB RES) [] []

theorem up_ref5Spec (p0 : Tree) (p1 : Int) (RES : List Int) (hm : up_ref5 p0 p1 = some RES) : Spec Tryz.prog 87 [.p (.agg (encTree p0)), pI p1] [] (ow 0 RES.length) [] [roI RES] := by
 unfold up_ref5 at hm
 refine SO Tryz.func87 rfl rfl [(0, .p (.agg (encTree p0))), (1, pI p1)] [] ?_
 intro cx hnt
 refine Sq (RK hnt (nn 2 []) [(1, pI p1), (2, rr 1016)] [(1016, bx (pm (encTree p0)))] tv ?_)
 refine Sq (RD hnt (.no :: []) [] [(5, .p (.sl .nil 0 0 (fun _ => [])))] [] [] tv ?_)
 refine Sq (Sq (RD hnt (nn 5 []) [] [(6, pI (w64 (((p0.nodes.length : Nat) : Int) - 1)))] [] [] tv ?_))
 refine Bk ?_
 refine DW.whileO (fun (s1 : (List Int) × Int × Int) => mkSt [(1, pI s1.2.1), (2, rr 1016), (5, ow 1208 s1.1.length), (6, pI s1.2.2)] [(1016, bx (pm (encTree p0))), (1208, ob0 (roI s1.1))]) hm (Conv.ads [(.s 5, 1208, 1, elems encI 0 [])]) ?_
 intro s1 n1 hm
 unfold up_ref5L1 at hm
 refine Sq (Sq (RD hnt (nn 2 []) [] [(12, pB (decide (s1.2.2 ≥ 0)))] [] [] tv ?_))
 refine condM hm ?_ ?_
 ·intro h5 hm
  refine Sk ?_
  refine Sq ?_
  refine Jn (ι := (List Int) × Int) (fun (y2 : (List Int) × Int) => mkSt [(1, pI y2.2), (2, rr 1016), (5, ow 1208 y2.1.length), (6, pI s1.2.2)] [(1016, bx (pm (encTree p0))), (1208, ob0 (roI y2.1))]) (fun y2 => (up_ref5J2 s1 n1) y2 = some RES) ?_ ?_
  ·intro y2 hm
   unfold up_ref5J2 at hm
   refine RD hnt (nn 3 []) [] [(6, pI (w64 (s1.2.2 - 1)))] [] [] tv ?_
   exact jD (y2.1, y2.2, (w64 (s1.2.2 - 1))) hm Conv.eqK
  ·refine Bk ?_
   obtain ⟨g6, hm⟩ := go1 hm
   refine Sq (RD hnt (nn 8 []) [12] [(22, pB ((p0.nodes.getD (Int.toNat s1.2.2) dNode).id == s1.2.1))] [] [] (an g6.1 (an g6.2 tv)) ?_)
   refine condM hm ?_ ?_
   ·intro h7 hm
    obtain ⟨g8, hm⟩ := go1 hm
    refine Sq (RN hnt (nn 5 []) [(2, rr 1016), (5, ow 1208 (s1.1 ++ [s1.2.1]).length), (6, pI s1.2.2)] [(1016, bx (pm (encTree p0))), (1208, ob0 (roI (s1.1 ++ [s1.2.1])))] [(5, ow 1208 (s1.1.length + 1))] [(1208, .row 1 (s1.1.length + 1) (catF s1.1.length (elI s1.1) (cut 1 [vi s1.2.1])))] (an (by omega : (s1.1.length + 1) * 8 ≤ 140737488355328) tv) (by kernel_rfl) (.cons rfl (MLe.ownLen (enc := encI) (d := 0) (f := (catF s1.1.length (elI s1.1) (cut 1 [vi s1.2.1]))) (RowIs.cat RowIs.elems (RowIs.lit (enc := encI) (d := 0) (n := 1) (f := (cut 1 [vi s1.2.1])) [s1.2.1] rfl (fun | 0, _ => rfl | n + 1, h => absurd h (by omega))))) .nil) (.cons rfl (BLe.typed (RowIs.cat RowIs.elems (RowIs.lit (enc := encI) (d := 0) (n := 1) (f := (cut 1 [vi s1.2.1])) [s1.2.1] rfl (fun | 0, _ => rfl | n + 1, h => absurd h (by omega))))) .nil) ?_)
    obtain ⟨g9, hm⟩ := go1 hm
    refine RD hnt (nn 7 []) [] [(1, pI (p0.nodes.getD (Int.toNat s1.2.2) dNode).parent)] [] [] (an g9.1 (an g9.2 tv)) ?_
    exact bD ((s1.1 ++ [s1.2.1]), (p0.nodes.getD (Int.toNat s1.2.2) dNode).parent) hm Conv.eqK
   ·intro h7 hm
    refine Sk ?_
    exact bD (s1.1, s1.2.1) hm Conv.t0
 ·intro h5 hm
  refine DW.exit ?_
  refine joinQ_exit ?_
  refine KQ_exit ?_
  refine blockQ_exit ?_
  show DW _ _ _ _ _
  refine Sq (RK hnt (nn 2 []) [(4, ow 1208 s1.1.length)] [(1208, ob0 (roI s1.1))] tv ?_)
  obtain rfl := sj hm
  exact DW.ret (retK [roI s1.1] [1208] (ow 0 s1.1.length))
abbrev o13 (ks : List Nat) (b : Bool) (RES : List Int) : Orc := .call 87 ks b (ow 0 RES.length) [] [roI RES]

abbrev c10e1 (p0 : Tree) : Nat × MV := (3, pI ((p0.nodes.length : Nat) : Int))
theorem Check_ref5Spec (p0 : Tree) (RES : Bool) (hm : Check_ref5 p0 = some RES) : Spec Tryz.prog 88 [.p (.agg (encTree p0))] [] (pB RES) [] [] := by
 unfold Check_ref5 at hm
 refine SO Tryz.func88 rfl rfl [(0, .p (.agg (encTree p0)))] [] ?_
 intro cx hnt
 refine Sq (RK hnt (nn 2 []) [(1, rr 1008)] [(1008, bx (pm (encTree p0)))] tv ?_)
 refine Sq (RD hnt (nn 4 []) [] [(c10e1 p0)] [] [] tv ?_)
 refine Sq (Sq (DW.regJ (sl2 := [(1, rr 1008), (c10e1 p0), (14, pB ((decide (((p0.nodes.length : Nat) : Int) < 1)) || (decide (((p0.nodes.length : Nat) : Int) > 64))))]) (ob2 := [(1008, bx (pm (encTree p0)))]) ?_ ?_))
 ·rcases bt (decide (((p0.nodes.length : Nat) : Int) < 1)) with h1 | h1
  ·exact RT hnt (nn 3 (sk 2 (pT :: []))) [(14, pB true)] (an3 h1 tv) (by kernel_rfl) (.cons rfl (.of_eq (by rw [h1]; try rfl)) .nil)
  ·exact RT hnt (nn 5 (pF :: [])) [(14, pB (decide (((p0.nodes.length : Nat) : Int) > 64)))] (an3 h1 tv) (by kernel_rfl) (.cons rfl (.of_eq (by rw [h1]; try rfl)) .nil)
 ·refine condM hm ?_ ?_
  ·intro h2 hm
   refine Sq (RK hnt (.no :: []) [(2, pB false)] [] tv ?_)
   obtain rfl := sj hm
   exact DW.ret (retK [] [] (pB false))
  ·intro h2 hm
   refine Sk ?_
   refine Sq (Sq (RD hnt (.no :: []) [14] [(4, pI 0)] [] [] tv ?_))
   refine Bk ?_
   obtain ⟨hc1, hm⟩ := go1 hm
   refine DW.rangeO (fun (k1 : Nat) (s1 : Unit) => mkSt [(1, rr 1008), (c10e1 p0), (4, pI ((k1 : Nat) : Int))] [(1008, bx (pm (encTree p0)))]) dNode hm Conv.eqK ?_
   intro k1 s1 n1 hk1 hs1 he1
   refine Sq (Sq (RD hnt (nn 3 []) [] [(17, pB (decide (((k1 : Nat) : Int) < ((p0.nodes.length : Nat) : Int))))] [] [] tv ?_))
   refine condK (decide (((k1 : Nat) : Int) < ((p0.nodes.length : Nat) : Int))) ?_ ?_
   ·intro h32
    have hlt1 : k1 < p0.nodes.length := by have := of_decide_eq_true h32; omega
    have hm := hs1 hlt1
    unfold Check_ref5L1 at hm
    refine Sk ?_
    refine Sq (Bk ?_)
    obtain ⟨r33, hr33, hm⟩ := bo hm
    refine Sq (RD hnt (nn 2 (o11 [] true r33 :: .no :: [])) [17] [(23, pB (!r33))] [] [] (an (node_ref5Spec p0 ((k1 : Nat) : Int) r33 hr33) tv) ?_)
    refine condM hm ?_ ?_
    ·intro h34 hm
     refine Sq (RK hnt (.no :: []) [(2, pB false)] [] tv ?_)
     obtain rfl := sj hm
     exact DW.ret (retK [] [] (pB false))
    ·intro h34 hm
     refine Sk ?_
     refine DW.done ?_
     show DW _ _ _ _ _
     refine RD hnt (nn 3 []) [23] [(4, pI (w64 (((k1 : Nat) : Int) + 1)))] [] [] tv ?_
     exact jD () ⟨hlt1, hm⟩ (Conv.tp [(4, pI (w64 (((k1 : Nat) : Int) + 1)))] [] (by kernel_rfl) (.cons rfl (.of_eq (congrArg pI (w64_succ hlt1 hc1))) .nil) .nil)
   ·intro h32
    have hge1 : ¬ k1 < p0.nodes.length := by have := of_decide_eq_false h32; omega
    have hm := he1 hge1
    unfold Check_ref5D1 at hm
    refine DW.exit ?_
    refine joinQ_exit ?_
    refine KQ_exit ?_
    refine blockQ_exit ?_
    show DW _ _ _ _ _
    refine Sq (Sq (RD hnt (.no :: []) [4, 17] [(5, pI 0)] [] [] tv ?_))
    refine Bk ?_
    obtain ⟨hc4, hm⟩ := go1 hm
    refine DW.rangeO (fun (k4 : Nat) (s4 : Unit) => mkSt [(1, rr 1008), (c10e1 p0), (5, pI ((k4 : Nat) : Int))] [(1008, bx (pm (encTree p0)))]) dNode hm Conv.eqK ?_
    intro k4 s4 n4 hk4 hs4 he4
    refine Sq (Sq (RD hnt (nn 3 []) [] [(26, pB (decide (((k4 : Nat) : Int) < ((p0.nodes.length : Nat) : Int))))] [] [] tv ?_))
    refine condK (decide (((k4 : Nat) : Int) < ((p0.nodes.length : Nat) : Int))) ?_ ?_
    ·intro h49
     have hlt4 : k4 < p0.nodes.length := by have := of_decide_eq_true h49; omega
     have hm := hs4 hlt4
     unfold Check_ref5L4 at hm
     refine Sk ?_
     refine Sq (Bk ?_)
     obtain ⟨r50, hr50, hm⟩ := bo hm
     refine Sq (RD hnt (nn 7 (o13 [] true r50 :: nn 2 [])) [26] [(38, pB (decide (((r50.length : Nat) : Int) > 9)))] [] [] (an (nn0 k4) (an (ltc hlt4) (an (up_ref5Spec p0 (p0.nodes.getD k4 (default : Node)).id r50 hr50) tv))) ?_)
     refine condM hm ?_ ?_
     ·intro h51 hm
      refine Sq (RK hnt (.no :: []) [(2, pB false)] [] tv ?_)
      obtain rfl := sj hm
      exact DW.ret (retK [] [] (pB false))
     ·intro h51 hm
      refine Sk ?_
      refine DW.done ?_
      show DW _ _ _ _ _
      refine RD hnt (nn 3 []) [38] [(5, pI (w64 (((k4 : Nat) : Int) + 1)))] [] [] tv ?_
      exact jD () ⟨hlt4, hm⟩ (Conv.tp [(5, pI (w64 (((k4 : Nat) : Int) + 1)))] [] (by kernel_rfl) (.cons rfl (.of_eq (congrArg pI (w64_succ hlt4 hc4))) .nil) .nil)
    ·intro h49
     have hge4 : ¬ k4 < p0.nodes.length := by have := of_decide_eq_false h49; omega
     have hm := he4 hge4
     unfold Check_ref5D4 at hm
     refine DW.exit ?_
     refine joinQ_exit ?_
     refine KQ_exit ?_
     refine blockQ_exit ?_
     show DW _ _ _ _ _
     obtain ⟨g52, hm⟩ := go1 hm
     refine Sq ?_
     refine Jn (ι := Bool) (fun (y7 : Bool) => mkSt [(2, pB y7)] []) (fun y7 => Check_ref5J7 y7 = some RES) ?_ ?_
     ·intro y7 hm
      unfold Check_ref5J7 at hm
      obtain rfl := sj hm
      exact DW.ret (retK [] [] (pB y7))
     ·rcases bt (decide (p0.next > (p0.nodes.getD (Int.toNat (w64 (((p0.nodes.length : Nat) : Int) - 1))) dNode).id)) with h53 | h53
      ·replace hm := if_t h53 hm
       refine RK hnt (nn 14 (pT :: .no :: [])) [(2, pB (decide (p0.next ≤ 2147483648)))] [] (an g52.1 (an g52.2 (an4 h53 tv))) ?_
       exact jD (decide (p0.next ≤ 2147483648)) hm .refl
      ·replace hm := if_f h53 hm
       refine RK hnt (nn 11 (sk 3 (pF :: .no :: []))) [(2, pB false)] [] (an g52.1 (an g52.2 (an4 h53 tv))) ?_
       exact jD false hm .refl
abbrev o10 (ks : List Nat) (b : Bool) (RES : Bool) : Orc := .call 88 ks b (pB RES) [] []

theorem leader_ref6Spec (p0 : List Task) (p1 : Int) (RES : Task × Bool) (hm : leader_ref6 p0 p1 = some RES) : Spec Tryz.prog 132 [.p (slTask p0), pI p1] [] (.p (.tup [.agg (encTask RES.1), vb RES.2])) [] [] := by
 unfold leader_ref6 at hm
 refine SO Tryz.func132 rfl rfl [(0, .p (slTask p0)), (1, pI p1)] [] ?_
 intro cx hnt
 refine Sq (RD hnt (nn 2 []) [] [(4, rr 1032)] [] [(1032, bx [pI 0, pI 0, pI 0, pI 0])] tv ?_)
 refine Sq (Sq (RD hnt (.no :: []) [] [(6, pI 0)] [] [] tv ?_))
 refine Bk ?_
 obtain ⟨hc1, hm⟩ := go1 hm
 refine DW.rangeO (fun (k1 : Nat) (s1 : Unit) => mkSt [(0, .p (slTask p0)), (1, pI p1), (4, rr 1032), (6, pI ((k1 : Nat) : Int))] [(1032, bx [pI 0, pI 0, pI 0, pI 0])]) dTask hm Conv.eqK ?_
 intro k1 s1 n1 hk1 hs1 he1
 refine Sq (Sq (RD hnt (nn 4 []) [] [(10, pB (decide (((k1 : Nat) : Int) < ((p0.length : Nat) : Int))))] [] [] tv ?_))
 refine condK (decide (((k1 : Nat) : Int) < ((p0.length : Nat) : Int))) ?_ ?_
 ·intro h11
  have hlt1 : k1 < p0.length := by have := of_decide_eq_true h11; omega
  have hm := hs1 hlt1
  unfold leader_ref6L1 at hm
  refine Sk ?_
  refine Sq (Bk ?_)
  refine Sq (RD hnt (nn 7 []) [10] [(19, pB ((p0.getD k1 (default : Task)).id == p1))] [] [] (an (nn0 k1) (an (ltc hlt1) tv)) ?_)
  refine condM hm ?_ ?_
  ·intro h12 hm
   refine Sq (RK hnt (nn 13 []) [(4, rr 1032), (5, pB ((p0.getD k1 (default : Task)).process == p1))] [(1032, bx (pm (encTask (p0.getD k1 (default : Task)))))] (an (nn0 k1) (an (ltc hlt1) (an (nn0 k1) (an (ltc hlt1) tv)))) ?_)
   obtain rfl := sj hm
   exact DW.ret (retK [] [] (.p (.tup [.agg (encTask (p0.getD k1 (default : Task))), vb ((p0.getD k1 (default : Task)).process == p1)])))
  ·intro h12 hm
   refine Sk ?_
   refine DW.done ?_
   show DW _ _ _ _ _
   refine RD hnt (nn 3 []) [19] [(6, pI (w64 (((k1 : Nat) : Int) + 1)))] [] [] tv ?_
   exact jD () ⟨hlt1, hm⟩ (Conv.tp [(6, pI (w64 (((k1 : Nat) : Int) + 1)))] [] (by kernel_rfl) (.cons rfl (.of_eq (congrArg pI (w64_succ hlt1 hc1))) .nil) .nil)
 ·intro h11
  have hge1 : ¬ k1 < p0.length := by have := of_decide_eq_false h11; omega
  have hm := he1 hge1
  unfold leader_ref6D1 at hm
  refine DW.exit ?_
  refine joinQ_exit ?_
  refine KQ_exit ?_
  refine blockQ_exit ?_
  show DW _ _ _ _ _
  refine Sq (RD hnt (nn 3 []) [0, 1, 6, 10] [(5, pB false)] [] [] tv ?_)
  obtain rfl := sj hm
  exact DW.ret (retK [] [] (.p (.tup [.agg [vi 0, vi 0, vi 0, vi 0], vb false])))
abbrev o14 (ks : List Nat) (b : Bool) (RES : Task × Bool) : Orc := .call 132 ks b (.p (.tup [.agg (encTask RES.1), vb RES.2])) [] []

theorem Find_ref5Spec (p0 : Tree) (p1 : Int) (RES : Node × Bool) (hm : Find_ref5 p0 p1 = some RES) : Spec Tryz.prog 30 [.p (.agg (encTree p0)), pI p1] [] (.p (.tup [.agg (encNode RES.1), vb RES.2])) [] [] := by
 unfold Find_ref5 at hm
 refine SO Tryz.func30 rfl rfl [(0, .p (.agg (encTree p0))), (1, pI p1)] [] ?_
 intro cx hnt
 refine Sq (RK hnt (nn 3 []) [(1, pI p1), (2, rr 1016), (4, rr 1032)] [(1016, bx (pm (encTree p0))), (1032, bx [pI 0, pI 0, pS ByteArray.empty, pI 0, pI 0, pI 0])] tv ?_)
 obtain ⟨r1, hr1, hm⟩ := bo hm
 refine Sq (Sq (RD hnt (.no :: o10 [] true r1 :: .no :: []) [] [(9, pB (!r1))] [] [] (an (Check_ref5Spec p0 r1 hr1) tv) ?_))
 refine condM hm ?_ ?_
 ·intro h2 hm
  refine Sq (RD hnt (nn 3 []) [1, 2, 9] [(5, pB false)] [1016] [] tv ?_)
  obtain rfl := sj hm
  exact DW.ret (retK [] [] (.p (.tup [.agg [vi 0, vi 0, vs ByteArray.empty, vi 0, vi 0, vi 0], vb false])))
 ·intro h2 hm
  refine Sk ?_
  refine Sq (Sq (RD hnt (.no :: []) [9] [(6, pI 0)] [] [] tv ?_))
  refine Bk ?_
  obtain ⟨hc1, hm⟩ := go1 hm
  refine DW.rangeO (fun (k1 : Nat) (s1 : Unit) => mkSt [(1, pI p1), (2, rr 1016), (4, rr 1032), (6, pI ((k1 : Nat) : Int))] [(1016, bx (pm (encTree p0))), (1032, bx [pI 0, pI 0, pS ByteArray.empty, pI 0, pI 0, pI 0])]) dNode hm Conv.eqK ?_
  intro k1 s1 n1 hk1 hs1 he1
  refine Sq (Sq (RD hnt (nn 5 []) [] [(15, pB (decide (((k1 : Nat) : Int) < ((p0.nodes.length : Nat) : Int))))] [] [] tv ?_))
  refine condK (decide (((k1 : Nat) : Int) < ((p0.nodes.length : Nat) : Int))) ?_ ?_
  ·intro h11
   have hlt1 : k1 < p0.nodes.length := by have := of_decide_eq_true h11; omega
   have hm := hs1 hlt1
   unfold Find_ref5L1 at hm
   refine Sk ?_
   refine Sq (Bk ?_)
   refine Sq (RD hnt (nn 8 []) [15] [(25, pB ((p0.nodes.getD k1 (default : Node)).id == p1))] [] [] (an (nn0 k1) (an (ltc hlt1) tv)) ?_)
   refine condM hm ?_ ?_
   ·intro h12 hm
    refine Sq (RK hnt (nn 7 []) [(4, rr 1032), (5, pB true)] [(1032, bx (pm (encNode (p0.nodes.getD k1 (default : Node)))))] (an (nn0 k1) (an (ltc hlt1) tv)) ?_)
    obtain rfl := sj hm
    exact DW.ret (retK [] [] (.p (.tup [.agg (encNode (p0.nodes.getD k1 (default : Node))), vb true])))
   ·intro h12 hm
    refine Sk ?_
    refine DW.done ?_
    show DW _ _ _ _ _
    refine RD hnt (nn 3 []) [25] [(6, pI (w64 (((k1 : Nat) : Int) + 1)))] [] [] tv ?_
    exact jD () ⟨hlt1, hm⟩ (Conv.tp [(6, pI (w64 (((k1 : Nat) : Int) + 1)))] [] (by kernel_rfl) (.cons rfl (.of_eq (congrArg pI (w64_succ hlt1 hc1))) .nil) .nil)
  ·intro h11
   have hge1 : ¬ k1 < p0.nodes.length := by have := of_decide_eq_false h11; omega
   have hm := he1 hge1
   unfold Find_ref5D1 at hm
   refine DW.exit ?_
   refine joinQ_exit ?_
   refine KQ_exit ?_
   refine blockQ_exit ?_
   show DW _ _ _ _ _
   refine Sq (RD hnt (nn 3 []) [1, 2, 6, 15] [(5, pB false)] [1016] [] tv ?_)
   obtain rfl := sj hm
   exact DW.ret (retK [] [] (.p (.tup [.agg [vi 0, vi 0, vs ByteArray.empty, vi 0, vi 0, vi 0], vb false])))
abbrev o16 (ks : List Nat) (b : Bool) (RES : Node × Bool) : Orc := .call 30 ks b (.p (.tup [.agg (encNode RES.1), vb RES.2])) [] []

theorem Has_ref5Spec (p0 : Tree) (p1 : Int) (RES : Bool) (hm : Has_ref5 p0 p1 = some RES) : Spec Tryz.prog 86 [.p (.agg (encTree p0)), pI p1] [] (pB RES) [] [] := by
 unfold Has_ref5 at hm
 refine SO Tryz.func86 rfl rfl [(0, .p (.agg (encTree p0))), (1, pI p1)] [] ?_
 intro cx hnt
 refine Sq (RK hnt (nn 2 []) [(1, pI p1), (2, rr 1016)] [(1016, bx (pm (encTree p0)))] tv ?_)
 obtain ⟨r1, hr1, hm⟩ := bo hm
 refine Sq (RK hnt (nn 2 (o16 [] true r1 :: nn 6 [])) [(6, pB r1.2)] [] (an (Find_ref5Spec p0 p1 r1 hr1) tv) ?_)
 refine Sq (RK hnt (nn 2 []) [(4, pB r1.2)] [] tv ?_)
 obtain rfl := sj hm
 exact DW.ret (retK [] [] (pB r1.2))
abbrev o15 (ks : List Nat) (b : Bool) (RES : Bool) : Orc := .call 86 ks b (pB RES) [] []

abbrev c9e1 (p0 : Hierarchy) (k1 : Nat) := (p0.tasks.getD k1 (default : Task))
abbrev c9e2 (p0 : Hierarchy) : Nat × MV := (3, pI ((p0.tasks.length : Nat) : Int))
theorem Check_ref6Spec (p0 : Hierarchy) (RES : Bool) (hm : Check_ref6 p0 = some RES) : Spec Tryz.prog 80 [.p (.agg (encHierarchy p0))] [] (pB RES) [] [] := by
 unfold Check_ref6 at hm
 refine SO Tryz.func80 rfl rfl [(0, .p (.agg (encHierarchy p0)))] [] ?_
 intro cx hnt
 refine Sq (RK hnt (nn 2 []) [(1, rr 1008)] [(1008, bx (pm (encHierarchy p0)))] tv ?_)
 refine Sq (RD hnt (nn 4 []) [] [(c9e2 p0)] [] [] tv ?_)
 obtain ⟨r1, hr1, hm⟩ := bo hm
 refine Sq (Sq ?_)
 refine Jn (ι := Bool) (fun (y1 : Bool) => mkSt [(1, rr 1008), (c9e2 p0), (44, pB y1)] [(1008, bx (pm (encHierarchy p0)))]) (fun y1 => (Check_ref6J1 p0) y1 = some RES) ?_ ?_
 ·intro y1 hm
  unfold Check_ref6J1 at hm
  refine condM hm ?_ ?_
  ·intro h8 hm
   refine Sq (RK hnt (.no :: []) [(2, pB false)] [] tv ?_)
   obtain rfl := sj hm
   exact DW.ret (retK [] [] (pB false))
  ·intro h8 hm
   refine Sk ?_
   refine Sq (Sq (RD hnt (.no :: []) [44] [(4, pI 0)] [] [] tv ?_))
   refine Bk ?_
   obtain ⟨hc1, hm⟩ := go1 hm
   refine DW.rangeO (fun (k1 : Nat) (s1 : Unit) => mkSt [(1, rr 1008), (c9e2 p0), (4, pI ((k1 : Nat) : Int))] [(1008, bx (pm (encHierarchy p0)))]) dTask hm Conv.eqK ?_
   intro k1 s1 n1 hk1 hs1 he1
   refine Sq (Sq (RD hnt (nn 3 []) [] [(47, pB (decide (((k1 : Nat) : Int) < ((p0.tasks.length : Nat) : Int))))] [] [] tv ?_))
   refine condK (decide (((k1 : Nat) : Int) < ((p0.tasks.length : Nat) : Int))) ?_ ?_
   ·intro h45
    have hlt1 : k1 < p0.tasks.length := by have := of_decide_eq_true h45; omega
    have hm := hs1 hlt1
    unfold Check_ref6L1 at hm
    refine Sk ?_
    refine Sq (Bk ?_)
    refine Sq (RD hnt (nn 7 []) [47] [(5, rr 1040)] [] [(1040, bx (pm (encTask (c9e1 p0 k1))))] (an (nn0 k1) (an (ltc hlt1) tv)) ?_)
    obtain ⟨r46, hr46, hm⟩ := bo hm
    refine Sq (RD hnt (nn 4 (o14 [] true r46 :: nn 6 [])) [] [(6, rr 1048), (7, pB r46.2)] [] [(1048, bx (pm (encTask r46.1)))] (an (leader_ref6Spec p0.tasks (c9e1 p0 k1).process r46 hr46) tv) ?_)
    refine Sq ?_
    refine Jn (ι := Bool) (fun (y4 : Bool) => mkSt [(1, rr 1008), (c9e2 p0), (4, pI ((k1 : Nat) : Int)), (110, pB y4)] [(1008, bx (pm (encHierarchy p0)))]) (fun y4 => (Check_ref6J4 n1) y4 = some RES) ?_ ?_
    ·intro y4 hm
     unfold Check_ref6J4 at hm
     refine condM hm ?_ ?_
     ·intro h61 hm
      refine Sq (RK hnt (.no :: []) [(2, pB false)] [] tv ?_)
      obtain rfl := sj hm
      exact DW.ret (retK [] [] (pB false))
     ·intro h61 hm
      refine Sk ?_
      refine DW.done ?_
      show DW _ _ _ _ _
      refine RD hnt (nn 3 []) [110] [(4, pI (w64 (((k1 : Nat) : Int) + 1)))] [] [] tv ?_
      exact jD () ⟨hlt1, hm⟩ (Conv.tp [(4, pI (w64 (((k1 : Nat) : Int) + 1)))] [] (by kernel_rfl) (.cons rfl (.of_eq (congrArg pI (w64_succ hlt1 hc1))) .nil) .nil)
    ·rcases bt (decide ((c9e1 p0 k1).id < 1)) with h47 | h47
     ·replace hm := if_t h47 hm
      refine RD hnt (nn 4 (sk 14 (pT :: .no :: sk 6 (pT :: .no :: sk 3 (pT :: .no :: sk 3 (pT :: .no :: sk 2 (pT :: .no :: sk 5 (pT :: [])))))))) [5, 6, 7] [(110, pB true)] [1040, 1048] [] (an5 h47 (an6 tt (an6 tt (an6 tt (an6 tt tv))))) ?_
      exact jD true hm Conv.eqK
     ·replace hm := if_f h47 hm
      rcases bt (decide (((k1 : Nat) : Int) > 0)) with h48 | h48
      ·replace hm := if_t h48 hm
       obtain ⟨g49, hm⟩ := go1 hm
       rcases bt (decide ((p0.tasks.getD (Int.toNat (w64 (((k1 : Nat) : Int) - 1))) dTask).id ≥ (c9e1 p0 k1).id)) with h50 | h50
       ·replace hm := if_t h50 hm
        refine RD hnt (nn 17 (pT :: pF :: .no :: sk 6 (pT :: .no :: sk 3 (pT :: .no :: sk 3 (pT :: .no :: sk 2 (pT :: .no :: sk 5 (pT :: []))))))) [5, 6, 7] [(110, pB true)] [1040, 1048] [] (an3 h47 (an5 h48 (an g49.1 (an g49.2 (an5 h48 (an h47 (an h48 (an h47 (an h50 (an6 h50 (an5 tt (an6 tt (an6 tt tv))))))))))))) ?_
        exact jD true hm Conv.eqK
       ·replace hm := if_f h50 hm
        obtain ⟨r51, hr51, hm⟩ := bo hm
        rcases bt (!r51) with h52 | h52
        ·replace hm := if_t h52 hm
         refine RD hnt (nn 17 (pT :: pF :: nn 5 (o15 [] true r51 :: .no :: pF :: .no :: sk 3 (pT :: .no :: sk 3 (pT :: .no :: sk 2 (pT :: .no :: sk 5 (pT :: []))))))) [5, 6, 7] [(110, pB true)] [1040, 1048] [] (an3 h47 (an5 h48 (an g49.1 (an g49.2 (an5 h48 (an h47 (an h48 (an h47 (an5 h50 (an (Has_ref5Spec p0.tree (c9e1 p0 k1).group r51 hr51) (an2 h50 (an4 h52 (an tt (an6 tt (an6 tt tv))))))))))))))) ?_
         exact jD true hm Conv.eqK
        ·replace hm := if_f h52 hm
         rcases bt (decide ((c9e1 p0 k1).user < 0)) with h53 | h53
         ·replace hm := if_t h53 hm
          refine RD hnt (nn 17 (pT :: pF :: nn 5 (o15 [] true r51 :: .no :: pF :: nn 4 (pF :: .no :: sk 3 (pT :: .no :: sk 2 (pT :: .no :: sk 5 (pT :: []))))))) [5, 6, 7] [(110, pB true)] [1040, 1048] [] (an3 h47 (an5 h48 (an g49.1 (an g49.2 (an5 h48 (an h47 (an h48 (an h47 (an5 h50 (an (Has_ref5Spec p0.tree (c9e1 p0 k1).group r51 hr51) (an2 h50 (an4 h52 (an4 h53 (an3 tt (an6 tt tv))))))))))))))) ?_
          exact jD true hm Conv.eqK
         ·replace hm := if_f h53 hm
          rcases bt (decide ((c9e1 p0 k1).user > 1048576)) with h54 | h54
          ·replace hm := if_t h54 hm
           refine RD hnt (nn 17 (pT :: pF :: nn 5 (o15 [] true r51 :: .no :: pF :: nn 4 (pF :: nn 4 (pF :: .no :: sk 2 (pT :: .no :: sk 5 (pT :: []))))))) [5, 6, 7] [(110, pB true)] [1040, 1048] [] (an3 h47 (an5 h48 (an g49.1 (an g49.2 (an5 h48 (an h47 (an h48 (an h47 (an5 h50 (an (Has_ref5Spec p0.tree (c9e1 p0 k1).group r51 hr51) (an2 h50 (an4 h52 (an4 h53 (an3 h54 (an6 tt tv))))))))))))))) ?_
           exact jD true hm Conv.eqK
          ·replace hm := if_f h54 hm
           rcases bt (!r46.2) with h55 | h55
           ·replace hm := if_t h55 hm
            refine RD hnt (nn 17 (pT :: pF :: nn 5 (o15 [] true r51 :: .no :: pF :: nn 4 (pF :: nn 4 (pF :: nn 3 (pF :: .no :: sk 5 (pT :: []))))))) [5, 6, 7] [(110, pB true)] [1040, 1048] [] (an3 h47 (an5 h48 (an g49.1 (an g49.2 (an5 h48 (an h47 (an h48 (an h47 (an5 h50 (an (Has_ref5Spec p0.tree (c9e1 p0 k1).group r51 hr51) (an2 h50 (an4 h52 (an4 h53 (an3 h54 (an6 h55 tv))))))))))))))) ?_
            exact jD true hm Conv.eqK
           ·replace hm := if_f h55 hm
            refine RD hnt (nn 17 (pT :: pF :: nn 5 (o15 [] true r51 :: .no :: pF :: nn 4 (pF :: nn 4 (pF :: nn 3 (pF :: nn 6 (pF :: []))))))) [5, 6, 7] [(110, pB (r46.1.user != (c9e1 p0 k1).user))] [1040, 1048] [] (an3 h47 (an5 h48 (an g49.1 (an g49.2 (an5 h48 (an h47 (an h48 (an h47 (an5 h50 (an (Has_ref5Spec p0.tree (c9e1 p0 k1).group r51 hr51) (an2 h50 (an4 h52 (an4 h53 (an3 h54 (an6 h55 tv))))))))))))))) ?_
            exact jD (r46.1.user != (c9e1 p0 k1).user) hm Conv.eqK
      ·replace hm := if_f h48 hm
       obtain ⟨r56, hr56, hm⟩ := bo hm
       rcases bt (!r56) with h57 | h57
       ·replace hm := if_t h57 hm
        refine RD hnt (nn 7 (sk 10 (pF :: pF :: nn 5 (o15 [] true r56 :: .no :: pF :: .no :: sk 3 (pT :: .no :: sk 3 (pT :: .no :: sk 2 (pT :: .no :: sk 5 (pT :: [])))))))) [5, 6, 7] [(110, pB true)] [1040, 1048] [] (an3 h47 (an4 h48 (an6 h48 (an h47 (an h48 (an h47 (an5 ff (an (Has_ref5Spec p0.tree (c9e1 p0 k1).group r56 hr56) (an2 ff (an4 h57 (an tt (an6 tt (an6 tt tv))))))))))))) ?_
        exact jD true hm Conv.eqK
       ·replace hm := if_f h57 hm
        rcases bt (decide ((c9e1 p0 k1).user < 0)) with h58 | h58
        ·replace hm := if_t h58 hm
         refine RD hnt (nn 7 (sk 10 (pF :: pF :: nn 5 (o15 [] true r56 :: .no :: pF :: nn 4 (pF :: .no :: sk 3 (pT :: .no :: sk 2 (pT :: .no :: sk 5 (pT :: [])))))))) [5, 6, 7] [(110, pB true)] [1040, 1048] [] (an3 h47 (an4 h48 (an6 h48 (an h47 (an h48 (an h47 (an5 ff (an (Has_ref5Spec p0.tree (c9e1 p0 k1).group r56 hr56) (an2 ff (an4 h57 (an4 h58 (an3 tt (an6 tt tv))))))))))))) ?_
         exact jD true hm Conv.eqK
        ·replace hm := if_f h58 hm
         rcases bt (decide ((c9e1 p0 k1).user > 1048576)) with h59 | h59
         ·replace hm := if_t h59 hm
          refine RD hnt (nn 7 (sk 10 (pF :: pF :: nn 5 (o15 [] true r56 :: .no :: pF :: nn 4 (pF :: nn 4 (pF :: .no :: sk 2 (pT :: .no :: sk 5 (pT :: [])))))))) [5, 6, 7] [(110, pB true)] [1040, 1048] [] (an3 h47 (an4 h48 (an6 h48 (an h47 (an h48 (an h47 (an5 ff (an (Has_ref5Spec p0.tree (c9e1 p0 k1).group r56 hr56) (an2 ff (an4 h57 (an4 h58 (an3 h59 (an6 tt tv))))))))))))) ?_
          exact jD true hm Conv.eqK
         ·replace hm := if_f h59 hm
          rcases bt (!r46.2) with h60 | h60
          ·replace hm := if_t h60 hm
           refine RD hnt (nn 7 (sk 10 (pF :: pF :: nn 5 (o15 [] true r56 :: .no :: pF :: nn 4 (pF :: nn 4 (pF :: nn 3 (pF :: .no :: sk 5 (pT :: [])))))))) [5, 6, 7] [(110, pB true)] [1040, 1048] [] (an3 h47 (an4 h48 (an6 h48 (an h47 (an h48 (an h47 (an5 ff (an (Has_ref5Spec p0.tree (c9e1 p0 k1).group r56 hr56) (an2 ff (an4 h57 (an4 h58 (an3 h59 (an6 h60 tv))))))))))))) ?_
           exact jD true hm Conv.eqK
          ·replace hm := if_f h60 hm
           refine RD hnt (nn 7 (sk 10 (pF :: pF :: nn 5 (o15 [] true r56 :: .no :: pF :: nn 4 (pF :: nn 4 (pF :: nn 3 (pF :: nn 6 (pF :: [])))))))) [5, 6, 7] [(110, pB (r46.1.user != (c9e1 p0 k1).user))] [1040, 1048] [] (an3 h47 (an4 h48 (an6 h48 (an h47 (an h48 (an h47 (an5 ff (an (Has_ref5Spec p0.tree (c9e1 p0 k1).group r56 hr56) (an2 ff (an4 h57 (an4 h58 (an3 h59 (an6 h60 tv))))))))))))) ?_
           exact jD (r46.1.user != (c9e1 p0 k1).user) hm Conv.eqK
   ·intro h45
    have hge1 : ¬ k1 < p0.tasks.length := by have := of_decide_eq_false h45; omega
    have hm := he1 hge1
    unfold Check_ref6D1 at hm
    refine DW.exit ?_
    refine joinQ_exit ?_
    refine KQ_exit ?_
    refine blockQ_exit ?_
    show DW _ _ _ _ _
    refine Sq (RK hnt (.no :: []) [(2, pB true)] [] tv ?_)
    obtain rfl := sj hm
    exact DW.ret (retK [] [] (pB true))
 ·rcases bt (!r1) with h2 | h2
  ·replace hm := if_t h2 hm
   refine RD hnt (nn 2 (o10 [] true r1 :: nn 2 (sk 2 (pT :: .no :: sk 3 (pT :: .no :: sk 3 (pT :: .no :: sk 14 (pT :: []))))))) [] [(44, pB true)] [] [] (an (Check_ref5Spec p0.tree r1 hr1) (an3 h2 (an tt (an6 tt (an6 tt tv))))) ?_
   exact jD true hm Conv.eqK
  ·replace hm := if_f h2 hm
   rcases bt (decide (((p0.tasks.length : Nat) : Int) > 128)) with h3 | h3
   ·replace hm := if_t h3 hm
    refine RD hnt (nn 2 (o10 [] true r1 :: nn 4 (pF :: .no :: sk 3 (pT :: .no :: sk 3 (pT :: .no :: sk 14 (pT :: [])))))) [] [(44, pB true)] [] [] (an (Check_ref5Spec p0.tree r1 hr1) (an3 h2 (an4 h3 (an3 tt (an6 tt tv))))) ?_
    exact jD true hm Conv.eqK
   ·replace hm := if_f h3 hm
    rcases bt (decide (p0.next < 1)) with h4 | h4
    ·replace hm := if_t h4 hm
     refine RD hnt (nn 2 (o10 [] true r1 :: nn 4 (pF :: nn 4 (pF :: .no :: sk 3 (pT :: .no :: sk 14 (pT :: [])))))) [] [(44, pB true)] [] [] (an (Check_ref5Spec p0.tree r1 hr1) (an3 h2 (an4 h3 (an4 h4 (an5 tt tv))))) ?_
     exact jD true hm Conv.eqK
    ·replace hm := if_f h4 hm
     rcases bt (decide (p0.next > 2147483648)) with h5 | h5
     ·replace hm := if_t h5 hm
      refine RD hnt (nn 2 (o10 [] true r1 :: nn 4 (pF :: nn 4 (pF :: nn 4 (pF :: .no :: sk 14 (pT :: [])))))) [] [(44, pB true)] [] [] (an (Check_ref5Spec p0.tree r1 hr1) (an3 h2 (an4 h3 (an4 h4 (an5 h5 tv))))) ?_
      exact jD true hm Conv.eqK
     ·replace hm := if_f h5 hm
      rcases bt (decide (((p0.tasks.length : Nat) : Int) > 0)) with h6 | h6
      ·replace hm := if_t h6 hm
       obtain ⟨g7, hm⟩ := go1 hm
       refine RD hnt (nn 2 (o10 [] true r1 :: nn 4 (pF :: nn 4 (pF :: nn 4 (pF :: nn 14 (pT :: pF :: [])))))) [] [(44, pB (decide (p0.next ≤ (p0.tasks.getD (Int.toNat (w64 (((p0.tasks.length : Nat) : Int) - 1))) dTask).id)))] [] [] (an (Check_ref5Spec p0.tree r1 hr1) (an3 h2 (an4 h3 (an4 h4 (an3 h5 (an h6 (an6 h6 (an g7.1 (an g7.2 (an3 h6 (an h5 (an h6 (an h5 tv))))))))))))) ?_
       exact jD (decide (p0.next ≤ (p0.tasks.getD (Int.toNat (w64 (((p0.tasks.length : Nat) : Int) - 1))) dTask).id)) hm Conv.eqK
      ·replace hm := if_f h6 hm
       refine RD hnt (nn 2 (o10 [] true r1 :: nn 4 (pF :: nn 4 (pF :: nn 4 (pF :: nn 4 (sk 10 (pF :: pF :: []))))))) [] [(44, pB false)] [] [] (an (Check_ref5Spec p0.tree r1 hr1) (an3 h2 (an4 h3 (an4 h4 (an3 h5 (an4 h6 (an6 h6 (an h5 (an h6 (an h5 tv)))))))))) ?_
       exact jD false hm Conv.eqK
abbrev o9 (ks : List Nat) (b : Bool) (RES : Bool) : Orc := .call 80 ks b (pB RES) [] []

theorem Acting_ref7Spec (p0 : Tree) (p1 : Int) (RES : Int) (hm : Acting_ref7 p0 p1 = some RES) : Spec Tryz.prog 160 [.p (.agg (encTree p0)), pI p1] [] (pI RES) [] [] := by
 unfold Acting_ref7 at hm
 refine SO Tryz.func160 rfl rfl [(0, .p (.agg (encTree p0))), (1, pI p1)] [] ?_
 intro cx hnt
 refine Sq (RK hnt (nn 2 []) [(1, pI p1), (2, rr 1016)] [(1016, bx (pm (encTree p0)))] tv ?_)
 obtain ⟨r1, hr1, hm⟩ := bo hm
 refine Sq (RD hnt (nn 2 (o16 [] true r1 :: nn 6 [])) [] [(5, rr 1040), (6, pB r1.2)] [] [(1040, bx (pm (encNode r1.1)))] (an (Find_ref5Spec p0 p1 r1 hr1) tv) ?_)
 refine Sq (Sq (DW.regJ (sl2 := [(2, rr 1016), (5, rr 1040), (20, pB ((!r1.2) || (p1 == 1)))]) (ob2 := [(1016, bx (pm (encTree p0))), (1040, bx (pm (encNode r1.1)))]) ?_ ?_))
 ·rcases bt (!r1.2) with h2 | h2
  ·exact RT hnt (nn 3 (sk 2 (pT :: []))) [(20, pB true)] (an3 h2 tv) (by kernel_rfl) (.cons rfl (.of_eq (by rw [h2]; try rfl)) .nil)
  ·exact RT hnt (nn 5 (pF :: [])) [(20, pB (p1 == 1))] (an3 h2 tv) (by kernel_rfl) (.cons rfl (.of_eq (by rw [h2]; try rfl)) .nil)
 ·refine condM hm ?_ ?_
  ·intro h3 hm
   refine Sq (RK hnt (.no :: []) [(4, pI 0)] [] tv ?_)
   obtain rfl := sj hm
   exact DW.ret (retK [] [] (pI 0))
  ·intro h3 hm
   refine Sk ?_
   obtain ⟨r4, hr4, hm⟩ := bo hm
   refine Sq (RD hnt (nn 3 (o16 [] true r4 :: nn 6 [])) [2, 20] [(7, rr 1056)] [1016] [(1056, bx (pm (encNode r4.1)))] (an (Find_ref5Spec p0 r1.1.parent r4 hr4) tv) ?_)
   refine Sq (Sq (RD hnt (nn 3 []) [5] [(30, pB (r1.1.kind == 1))] [1040] [] tv ?_))
   refine condM hm ?_ ?_
   ·intro h5 hm
    refine Sq (RK hnt (nn 4 []) [(4, pI (kandNot .i64 r4.1.control 6))] [] tv ?_)
    obtain rfl := sj hm
    exact DW.ret (retK [] [] (pI (kandNot .i64 r4.1.control 6)))
   ·intro h5 hm
    refine Sk ?_
    refine Sq (RK hnt (nn 3 []) [(4, pI r4.1.control)] [] tv ?_)
    obtain rfl := sj hm
    exact DW.ret (retK [] [] (pI r4.1.control))
abbrev o18 (ks : List Nat) (b : Bool) (RES : Int) : Orc := .call 160 ks b (pI RES) [] []

theorem Available_ref7Spec (p0 : Tree) (p1 : Int) (RES : Int) (hm : Available_ref7 p0 p1 = some RES) : Spec Tryz.prog 136 [.p (.agg (encTree p0)), pI p1] [] (pI RES) [] [] := by
 unfold Available_ref7 at hm
 refine SO Tryz.func136 rfl rfl [(0, .p (.agg (encTree p0))), (1, pI p1)] [] ?_
 intro cx hnt
 refine Sq (RK hnt (nn 2 []) [(1, pI p1), (2, rr 1016)] [(1016, bx (pm (encTree p0)))] tv ?_)
 obtain ⟨r1, hr1, hm⟩ := bo hm
 refine Sq (RD hnt (nn 2 (o16 [] true r1 :: nn 6 [])) [] [(5, rr 1040), (6, pB r1.2)] [] [(1040, bx (pm (encNode r1.1)))] (an (Find_ref5Spec p0 p1 r1 hr1) tv) ?_)
 refine Sq (Sq (RD hnt (nn 2 []) [6] [(15, pB (!r1.2))] [] [] tv ?_))
 refine condM hm ?_ ?_
 ·intro h2 hm
  refine Sq (RK hnt (.no :: []) [(4, pI 0)] [] tv ?_)
  obtain rfl := sj hm
  exact DW.ret (retK [] [] (pI 0))
 ·intro h2 hm
  refine Sk ?_
  refine Sq (RD hnt (.no :: []) [15] [(7, pI 31)] [] [] tv ?_)
  refine Sq (Sq (RD hnt (nn 2 []) [] [(17, pB (p1 != 1))] [] [] tv ?_))
  refine Jn (ι := Int) (fun (y1 : Int) => mkSt [(5, rr 1040), (7, pI y1)] [(1040, bx (pm (encNode r1.1)))]) (fun y1 => (Available_ref7J1 r1) y1 = some RES) ?_ ?_
  ·intro y1 hm
   unfold Available_ref7J1 at hm
   refine Sq (Sq (RK hnt (nn 3 []) [(7, pI y1), (23, pB (r1.1.kind == 1))] [] tv ?_))
   refine Jn (ι := Int) (fun (y2 : Int) => mkSt [(7, pI y2)] []) (fun y2 => Available_ref7J2 y2 = some RES) ?_ ?_
   ·intro y2 hm
    unfold Available_ref7J2 at hm
    refine Sq (RK hnt (nn 2 []) [(4, pI y2)] [] tv ?_)
    obtain rfl := sj hm
    exact DW.ret (retK [] [] (pI y2))
   ·refine condM hm ?_ ?_
    ·intro h5 hm
     refine RK hnt (nn 3 []) [(7, pI (kandNot .i64 y1 6))] [] tv ?_
     exact jD (kandNot .i64 y1 6) hm .refl
    ·intro h5 hm
     refine Sk ?_
     exact jD y1 hm Conv.t0
  ·refine condM hm ?_ ?_
   ·intro h3 hm
    obtain ⟨r4, hr4, hm⟩ := bo hm
    refine RD hnt (nn 2 (o18 [] true r4 :: .no :: [])) [1, 2, 17] [(7, pI r4)] [1016] [] (an (Acting_ref7Spec p0 p1 r4 hr4) tv) ?_
    exact jD r4 hm Conv.eqK
   ·intro h3 hm
    refine Sk ?_
    exact jD 31 hm Conv.t0
abbrev o17 (ks : List Nat) (b : Bool) (RES : Int) : Orc := .call 136 ks b (pI RES) [] []

abbrev c19e1 (p0 : Hierarchy) (k1 : Nat) := (p0.tasks.getD k1 (default : Task))
theorem Tasks_ref6Spec (p0 : Hierarchy) (p1 : Int) (RES : List Int) (hm : Tasks_ref6 p0 p1 = some RES) : Spec Tryz.prog 31 [.p (.agg (encHierarchy p0)), pI p1] [] (ow 0 RES.length) [] [roI RES] := by
 unfold Tasks_ref6 at hm
 refine SO Tryz.func31 rfl rfl [(0, .p (.agg (encHierarchy p0))), (1, pI p1)] [] ?_
 intro cx hnt
 refine Sq (RK hnt (nn 2 []) [(1, pI p1), (2, rr 1016)] [(1016, bx (pm (encHierarchy p0)))] tv ?_)
 obtain ⟨r1, hr1, hm⟩ := bo hm
 refine Sq (Sq (RD hnt (.no :: o9 [] true r1 :: .no :: []) [] [(9, pB (!r1))] [] [] (an (Check_ref6Spec p0 r1 hr1) tv) ?_))
 refine condM hm ?_ ?_
 ·intro h2 hm
  refine Sq (RK hnt (.no :: []) [(4, .p (.sl .nil 0 0 (fun _ => [])))] [] tv ?_)
  refine DW.cv [] [(4, ow 100000 0)] [] [(100000, ob0 (roI []))] (Conv.ads [(.s 4, 100000, 1, elems encI 0 [])]) ?_
  obtain rfl := sj hm
  exact DW.ret (retK [roI []] [100000] (ow 0 0))
 ·intro h2 hm
  refine Sk ?_
  refine Sq (RD hnt (.no :: []) [9] [(5, .p (.sl .nil 0 0 (fun _ => [])))] [] [] tv ?_)
  refine Sq (Sq (RD hnt (.no :: []) [] [(6, pI 0)] [] [] tv ?_))
  refine Bk ?_
  obtain ⟨hc1, hm⟩ := go1 hm
  refine DW.rangeO (fun (k1 : Nat) (s1 : List Int) => mkSt [(1, pI p1), (2, rr 1016), (5, ow 1264 s1.length), (6, pI ((k1 : Nat) : Int))] [(1016, bx (pm (encHierarchy p0))), (1264, ob0 (roI s1))]) dTask hm (Conv.ads [(.s 5, 1264, 1, elems encI 0 [])]) ?_
  intro k1 s1 n1 hk1 hs1 he1
  refine Sq (Sq (RD hnt (nn 5 []) [] [(14, pB (decide (((k1 : Nat) : Int) < ((p0.tasks.length : Nat) : Int))))] [] [] tv ?_))
  refine condK (decide (((k1 : Nat) : Int) < ((p0.tasks.length : Nat) : Int))) ?_ ?_
  ·intro h12
   have hlt1 : k1 < p0.tasks.length := by have := of_decide_eq_true h12; omega
   have hm := hs1 hlt1
   unfold Tasks_ref6L1 at hm
   refine Sk ?_
   refine Sq ?_
   refine Jn (ι := List Int) (fun (y3 : List Int) => mkSt [(1, pI p1), (2, rr 1016), (5, ow 1264 y3.length), (6, pI ((k1 : Nat) : Int))] [(1016, bx (pm (encHierarchy p0))), (1264, ob0 (roI y3))]) (fun y3 => (Tasks_ref6J3 n1) y3 = some RES) ?_ ?_
   ·intro y3 hm
    unfold Tasks_ref6J3 at hm
    refine RD hnt (nn 3 []) [] [(6, pI (w64 (((k1 : Nat) : Int) + 1)))] [] [] tv ?_
    exact jD y3 ⟨hlt1, hm⟩ (Conv.tp [(6, pI (w64 (((k1 : Nat) : Int) + 1)))] [] (by kernel_rfl) (.cons rfl (.of_eq (congrArg pI (w64_succ hlt1 hc1))) .nil) .nil)
   ·refine Bk ?_
    refine Sq (RD hnt (nn 8 []) [14] [(24, pB ((c19e1 p0 k1).group == p1))] [] [] (an (nn0 k1) (an (ltc hlt1) tv)) ?_)
    refine condM hm ?_ ?_
    ·intro h13 hm
     obtain ⟨g14, hm⟩ := go1 hm
     refine RN hnt (nn 10 []) [(1, pI p1), (2, rr 1016), (5, ow 1264 (s1 ++ [(c19e1 p0 k1).id]).length), (6, pI ((k1 : Nat) : Int))] [(1016, bx (pm (encHierarchy p0))), (1264, ob0 (roI (s1 ++ [(c19e1 p0 k1).id])))] [(5, ow 1264 (s1.length + 1))] [(1264, .row 1 (s1.length + 1) (catF s1.length (elI s1) (cut 1 [vi (c19e1 p0 k1).id])))] (an (nn0 k1) (an (ltc hlt1) (an (by omega : (s1.length + 1) * 8 ≤ 140737488355328) tv))) (by kernel_rfl) (.cons rfl (MLe.ownLen (enc := encI) (d := 0) (f := (catF s1.length (elI s1) (cut 1 [vi (c19e1 p0 k1).id]))) (RowIs.cat RowIs.elems (RowIs.lit (enc := encI) (d := 0) (n := 1) (f := (cut 1 [vi (c19e1 p0 k1).id])) [(c19e1 p0 k1).id] rfl (fun | 0, _ => rfl | n + 1, h => absurd h (by omega))))) .nil) (.cons rfl (BLe.typed (RowIs.cat RowIs.elems (RowIs.lit (enc := encI) (d := 0) (n := 1) (f := (cut 1 [vi (c19e1 p0 k1).id])) [(c19e1 p0 k1).id] rfl (fun | 0, _ => rfl | n + 1, h => absurd h (by omega))))) .nil) ?_
     exact bD (s1 ++ [(c19e1 p0 k1).id]) hm .refl
    ·intro h13 hm
     refine Sk ?_
     exact bD s1 hm Conv.t0
  ·intro h12
   have hge1 : ¬ k1 < p0.tasks.length := by have := of_decide_eq_false h12; omega
   have hm := he1 hge1
   unfold Tasks_ref6D1 at hm
   refine DW.exit ?_
   refine joinQ_exit ?_
   refine KQ_exit ?_
   refine blockQ_exit ?_
   show DW _ _ _ _ _
   refine Sq (RK hnt (nn 2 []) [(4, ow 1264 s1.length)] [(1264, ob0 (roI s1))] tv ?_)
   obtain rfl := sj hm
   exact DW.ret (retK [roI s1] [1264] (ow 0 s1.length))
abbrev o19 (ks : List Nat) (b : Bool) (RES : List Int) : Orc := .call 31 ks b (ow 0 RES.length) [] [roI RES]

abbrev c8e1 (p0 : Hierarchy) (k1 : Nat) := (p0.tree.nodes.getD k1 (default : Node))
theorem Sound_ref7Spec (p0 : Hierarchy) (RES : Bool) (hm : Sound_ref7 p0 = some RES) : Spec Tryz.prog 90 [.p (.agg (encHierarchy p0))] [] (pB RES) [] [] := by
 unfold Sound_ref7 at hm
 refine SO Tryz.func90 rfl rfl [(0, .p (.agg (encHierarchy p0)))] [] ?_
 intro cx hnt
 refine Sq (RK hnt (nn 2 []) [(1, rr 1008)] [(1008, bx (pm (encHierarchy p0)))] tv ?_)
 obtain ⟨r1, hr1, hm⟩ := bo hm
 refine Sq (Sq (RD hnt (.no :: o9 [] true r1 :: .no :: []) [] [(7, pB (!r1))] [] [] (an (Check_ref6Spec p0 r1 hr1) tv) ?_))
 refine condM hm ?_ ?_
 ·intro h2 hm
  refine Sq (RK hnt (.no :: []) [(2, pB false)] [] tv ?_)
  obtain rfl := sj hm
  exact DW.ret (retK [] [] (pB false))
 ·intro h2 hm
  refine Sk ?_
  refine Sq (Sq (RD hnt (.no :: []) [7] [(3, pI 0)] [] [] tv ?_))
  refine Bk ?_
  obtain ⟨hc1, hm⟩ := go1 hm
  refine DW.rangeO (fun (k1 : Nat) (s1 : Unit) => mkSt [(1, rr 1008), (3, pI ((k1 : Nat) : Int))] [(1008, bx (pm (encHierarchy p0)))]) dNode hm Conv.eqK ?_
  intro k1 s1 n1 hk1 hs1 he1
  refine Sq (Sq (RD hnt (nn 6 []) [] [(13, pB (decide (((k1 : Nat) : Int) < ((p0.tree.nodes.length : Nat) : Int))))] [] [] tv ?_))
  refine condK (decide (((k1 : Nat) : Int) < ((p0.tree.nodes.length : Nat) : Int))) ?_ ?_
  ·intro h19
   have hlt1 : k1 < p0.tree.nodes.length := by have := of_decide_eq_true h19; omega
   have hm := hs1 hlt1
   unfold Sound_ref7L1 at hm
   refine Sk ?_
   refine Sq (Bk ?_)
   refine Sq (RD hnt (nn 8 []) [13] [(4, rr 1032)] [] [(1032, bx (pm (encNode (c8e1 p0 k1))))] (an (nn0 k1) (an (ltc hlt1) tv)) ?_)
   obtain ⟨r20, hr20, hm⟩ := bo hm
   refine Sq ?_
   refine Jn (ι := Bool) (fun (y3 : Bool) => mkSt [(1, rr 1008), (3, pI ((k1 : Nat) : Int)), (49, pB y3)] [(1008, bx (pm (encHierarchy p0)))]) (fun y3 => (Sound_ref7J3 n1) y3 = some RES) ?_ ?_
   ·intro y3 hm
    unfold Sound_ref7J3 at hm
    refine condM hm ?_ ?_
    ·intro h25 hm
     refine Sq (RK hnt (.no :: []) [(2, pB false)] [] tv ?_)
     obtain rfl := sj hm
     exact DW.ret (retK [] [] (pB false))
    ·intro h25 hm
     refine Sk ?_
     refine DW.done ?_
     show DW _ _ _ _ _
     refine RD hnt (nn 3 []) [49] [(3, pI (w64 (((k1 : Nat) : Int) + 1)))] [] [] tv ?_
     exact jD () ⟨hlt1, hm⟩ (Conv.tp [(3, pI (w64 (((k1 : Nat) : Int) + 1)))] [] (by kernel_rfl) (.cons rfl (.of_eq (congrArg pI (w64_succ hlt1 hc1))) .nil) .nil)
   ·rcases bt ((kandNot .i64 (c8e1 p0 k1).control r20) != 0) with h21 | h21
    ·replace hm := if_t h21 hm
     refine RD hnt (nn 6 (o17 [] true r20 :: nn 3 (sk 17 (pT :: [])))) [4] [(49, pB true)] [1032] [] (an (Available_ref7Spec p0.tree (c8e1 p0 k1).id r20 hr20) (an2 h21 (an6 h21 tv))) ?_
     exact jD true hm Conv.eqK
    ·replace hm := if_f h21 hm
     rcases bt ((c8e1 p0 k1).id != 1) with h22 | h22
     ·replace hm := if_t h22 hm
      rcases bt ((kand .i64 (c8e1 p0 k1).control 6) != 0) with h23 | h23
      ·replace hm := if_t h23 hm
       obtain ⟨r24, hr24, hm⟩ := bo hm
       refine RD hnt (nn 6 (o17 [] true r20 :: nn 11 (pT :: nn 4 (o19 [] true r24 :: nn 2 (pT :: pF :: []))))) [4] [(49, pB (decide (((r24.length : Nat) : Int) > 0)))] [1032] [] (an (Available_ref7Spec p0.tree (c8e1 p0 k1).id r20 hr20) (an4 h21 (an4 h22 (an h21 (an h22 (an h21 (an4 h23 (an (Tasks_ref6Spec p0 (c8e1 p0 k1).id r24 hr24) (an2 h23 (an h21 (an h23 (an h21 tv)))))))))))) ?_
       exact jD (decide (((r24.length : Nat) : Int) > 0)) hm Conv.eqK
      ·replace hm := if_f h23 hm
       refine RD hnt (nn 6 (o17 [] true r20 :: nn 11 (pT :: .no :: sk 6 (pF :: pF :: [])))) [4] [(49, pB false)] [1032] [] (an (Available_ref7Spec p0.tree (c8e1 p0 k1).id r20 hr20) (an4 h21 (an4 h22 (an h21 (an h22 (an h21 (an6 h23 (an h21 (an h23 (an h21 tv)))))))))) ?_
       exact jD false hm Conv.eqK
     ·replace hm := if_f h22 hm
      refine RD hnt (nn 6 (o17 [] true r20 :: nn 7 (sk 4 (pF :: .no :: sk 6 (pF :: pF :: []))))) [4] [(49, pB false)] [1032] [] (an (Available_ref7Spec p0.tree (c8e1 p0 k1).id r20 hr20) (an4 h21 (an4 h22 (an h21 (an h22 (an h21 (an6 ff (an h21 (an ff (an h21 tv)))))))))) ?_
      exact jD false hm Conv.eqK
  ·intro h19
   have hge1 : ¬ k1 < p0.tree.nodes.length := by have := of_decide_eq_false h19; omega
   have hm := he1 hge1
   unfold Sound_ref7D1 at hm
   refine DW.exit ?_
   refine joinQ_exit ?_
   refine KQ_exit ?_
   refine blockQ_exit ?_
   show DW _ _ _ _ _
   refine Sq (RK hnt (.no :: []) [(2, pB true)] [] tv ?_)
   obtain rfl := sj hm
   exact DW.ret (retK [] [] (pB true))
abbrev o8 (ks : List Nat) (b : Bool) (RES : Bool) : Orc := .call 90 ks b (pB RES) [] []

theorem Find_ref6Spec (p0 : Hierarchy) (p1 : Int) (RES : Task × Bool) (hm : Find_ref6 p0 p1 = some RES) : Spec Tryz.prog 29 [.p (.agg (encHierarchy p0)), pI p1] [] (.p (.tup [.agg (encTask RES.1), vb RES.2])) [] [] := by
 unfold Find_ref6 at hm
 refine SO Tryz.func29 rfl rfl [(0, .p (.agg (encHierarchy p0))), (1, pI p1)] [] ?_
 intro cx hnt
 refine Sq (RK hnt (nn 3 []) [(1, pI p1), (2, rr 1016), (4, rr 1032)] [(1016, bx (pm (encHierarchy p0))), (1032, bx [pI 0, pI 0, pI 0, pI 0])] tv ?_)
 obtain ⟨r1, hr1, hm⟩ := bo hm
 refine Sq (Sq (RD hnt (.no :: o9 [] true r1 :: .no :: []) [] [(9, pB (!r1))] [] [] (an (Check_ref6Spec p0 r1 hr1) tv) ?_))
 refine condM hm ?_ ?_
 ·intro h2 hm
  refine Sq (RD hnt (nn 3 []) [1, 2, 9] [(5, pB false)] [1016] [] tv ?_)
  obtain rfl := sj hm
  exact DW.ret (retK [] [] (.p (.tup [.agg [vi 0, vi 0, vi 0, vi 0], vb false])))
 ·intro h2 hm
  refine Sk ?_
  refine Sq (Sq (RD hnt (.no :: []) [9] [(6, pI 0)] [] [] tv ?_))
  refine Bk ?_
  obtain ⟨hc1, hm⟩ := go1 hm
  refine DW.rangeO (fun (k1 : Nat) (s1 : Unit) => mkSt [(1, pI p1), (2, rr 1016), (4, rr 1032), (6, pI ((k1 : Nat) : Int))] [(1016, bx (pm (encHierarchy p0))), (1032, bx [pI 0, pI 0, pI 0, pI 0])]) dTask hm Conv.eqK ?_
  intro k1 s1 n1 hk1 hs1 he1
  refine Sq (Sq (RD hnt (nn 5 []) [] [(15, pB (decide (((k1 : Nat) : Int) < ((p0.tasks.length : Nat) : Int))))] [] [] tv ?_))
  refine condK (decide (((k1 : Nat) : Int) < ((p0.tasks.length : Nat) : Int))) ?_ ?_
  ·intro h11
   have hlt1 : k1 < p0.tasks.length := by have := of_decide_eq_true h11; omega
   have hm := hs1 hlt1
   unfold Find_ref6L1 at hm
   refine Sk ?_
   refine Sq (Bk ?_)
   refine Sq (RD hnt (nn 8 []) [15] [(25, pB ((p0.tasks.getD k1 (default : Task)).id == p1))] [] [] (an (nn0 k1) (an (ltc hlt1) tv)) ?_)
   refine condM hm ?_ ?_
   ·intro h12 hm
    refine Sq (RK hnt (nn 7 []) [(4, rr 1032), (5, pB true)] [(1032, bx (pm (encTask (p0.tasks.getD k1 (default : Task)))))] (an (nn0 k1) (an (ltc hlt1) tv)) ?_)
    obtain rfl := sj hm
    exact DW.ret (retK [] [] (.p (.tup [.agg (encTask (p0.tasks.getD k1 (default : Task))), vb true])))
   ·intro h12 hm
    refine Sk ?_
    refine DW.done ?_
    show DW _ _ _ _ _
    refine RD hnt (nn 3 []) [25] [(6, pI (w64 (((k1 : Nat) : Int) + 1)))] [] [] tv ?_
    exact jD () ⟨hlt1, hm⟩ (Conv.tp [(6, pI (w64 (((k1 : Nat) : Int) + 1)))] [] (by kernel_rfl) (.cons rfl (.of_eq (congrArg pI (w64_succ hlt1 hc1))) .nil) .nil)
  ·intro h11
   have hge1 : ¬ k1 < p0.tasks.length := by have := of_decide_eq_false h11; omega
   have hm := he1 hge1
   unfold Find_ref6D1 at hm
   refine DW.exit ?_
   refine joinQ_exit ?_
   refine KQ_exit ?_
   refine blockQ_exit ?_
   show DW _ _ _ _ _
   refine Sq (RD hnt (nn 3 []) [1, 2, 6, 15] [(5, pB false)] [1016] [] tv ?_)
   obtain rfl := sj hm
   exact DW.ret (retK [] [] (.p (.tup [.agg [vi 0, vi 0, vi 0, vi 0], vb false])))
abbrev o20 (ks : List Nat) (b : Bool) (RES : Task × Bool) : Orc := .call 29 ks b (.p (.tup [.agg (encTask RES.1), vb RES.2])) [] []

theorem Ancestors_ref5Spec (p0 : Tree) (p1 : Int) (RES : List Int) (hm : Ancestors_ref5 p0 p1 = some RES) : Spec Tryz.prog 27 [.p (.agg (encTree p0)), pI p1] [] (ow 0 RES.length) [] [roI RES] := by
 unfold Ancestors_ref5 at hm
 refine SO Tryz.func27 rfl rfl [(0, .p (.agg (encTree p0))), (1, pI p1)] [] ?_
 intro cx hnt
 refine Sq (RK hnt (nn 2 []) [(1, pI p1), (2, rr 1016)] [(1016, bx (pm (encTree p0)))] tv ?_)
 obtain ⟨r1, hr1, hm⟩ := bo hm
 refine Sq (Sq (RD hnt (nn 2 (o15 [] true r1 :: .no :: [])) [] [(8, pB (!r1))] [] [] (an (Has_ref5Spec p0 p1 r1 hr1) tv) ?_))
 refine condM hm ?_ ?_
 ·intro h2 hm
  refine Sq (RK hnt (.no :: []) [(4, .p (.sl .nil 0 0 (fun _ => [])))] [] tv ?_)
  refine DW.cv [] [(4, ow 100000 0)] [] [(100000, ob0 (roI []))] (Conv.ads [(.s 4, 100000, 1, elems encI 0 [])]) ?_
  obtain rfl := sj hm
  exact DW.ret (retK [roI []] [100000] (ow 0 0))
 ·intro h2 hm
  refine Sk ?_
  obtain ⟨r3, hr3, hm⟩ := bo hm
  refine Sq (RK hnt (nn 2 (o13 [] true r3 :: .no :: [])) [(4, ow 1088 r3.length)] [(1088, ob0 (roI r3))] (an (up_ref5Spec p0 p1 r3 hr3) tv) ?_)
  obtain rfl := sj hm
  exact DW.ret (retK [roI r3] [1088] (ow 0 r3.length))
abbrev o22 (ks : List Nat) (b : Bool) (RES : List Int) : Orc := .call 27 ks b (ow 0 RES.length) [] [roI RES]

theorem Domain_ref8Spec (p0 : Tree) (p1 : Int) (RES : Int × Bool) (hm : Domain_ref8 p0 p1 = some RES) : Spec Tryz.prog 36 [.p (.agg (encTree p0)), pI p1] [] (.p (.tup [vi RES.1, vb RES.2])) [] [] := by
 unfold Domain_ref8 at hm
 refine SO Tryz.func36 rfl rfl [(0, .p (.agg (encTree p0))), (1, pI p1)] [] ?_
 intro cx hnt
 refine Sq (RK hnt (nn 3 []) [(1, pI p1), (2, rr 1016)] [(1016, bx (pm (encTree p0)))] tv ?_)
 obtain ⟨r1, hr1, hm⟩ := bo hm
 refine Sq (RD hnt (nn 2 (o22 [] true r1 :: .no :: [])) [1] [(6, ow 1096 r1.length)] [] [(1096, ob0 (roI r1))] (an (Ancestors_ref5Spec p0 p1 r1 hr1) tv) ?_)
 refine Sq (Sq (RD hnt (.no :: []) [] [(7, pI 0)] [] [] tv ?_))
 refine Bk ?_
 obtain ⟨hc1, hm⟩ := go1 hm
 refine DW.rangeO (fun (k1 : Nat) (s1 : Unit) => mkSt [(2, rr 1016), (6, ow 1096 r1.length), (7, pI ((k1 : Nat) : Int))] [(1016, bx (pm (encTree p0))), (1096, ob0 (roI r1))]) 0 hm Conv.eqK ?_
 intro k1 s1 n1 hk1 hs1 he1
 refine Sq (Sq (RD hnt (nn 4 []) [] [(16, pB (decide (((k1 : Nat) : Int) < ((r1.length : Nat) : Int))))] [] [] tv ?_))
 refine condK (decide (((k1 : Nat) : Int) < ((r1.length : Nat) : Int))) ?_ ?_
 ·intro h16
  have hlt1 : k1 < r1.length := by have := of_decide_eq_true h16; omega
  have hm := hs1 hlt1
  unfold Domain_ref8L1 at hm
  refine Sk ?_
  refine Sq (Bk ?_)
  obtain ⟨r17, hr17, hm⟩ := bo hm
  refine Sq (RD hnt (nn 5 (o16 [] true r17 :: nn 6 [])) [16] [(8, rr 1064)] [] [(1064, bx (pm (encNode r17.1)))] (an (nn0 k1) (an (ltc hlt1) (an (by omega : k1 < r1.length) (an (Find_ref5Spec p0 (r1.getD k1 0) r17 hr17) tv)))) ?_)
  refine Sq (RD hnt (nn 3 []) [8] [(30, pB (r17.1.kind != 1))] [1064] [] tv ?_)
  refine condM hm ?_ ?_
  ·intro h18 hm
   refine Sq (RK hnt (nn 6 []) [(4, pI (r1.getD k1 0)), (5, pB true)] [] (an (nn0 k1) (an (ltc hlt1) (an (by omega : k1 < r1.length) tv))) ?_)
   obtain rfl := sj hm
   exact DW.ret (retK [] [] (.p (.tup [vi (r1.getD k1 0), vb true])))
  ·intro h18 hm
   refine Sk ?_
   refine DW.done ?_
   show DW _ _ _ _ _
   refine RD hnt (nn 3 []) [30] [(7, pI (w64 (((k1 : Nat) : Int) + 1)))] [] [] tv ?_
   exact jD () ⟨hlt1, hm⟩ (Conv.tp [(7, pI (w64 (((k1 : Nat) : Int) + 1)))] [] (by kernel_rfl) (.cons rfl (.of_eq (congrArg pI (w64_succ hlt1 hc1))) .nil) .nil)
 ·intro h16
  have hge1 : ¬ k1 < r1.length := by have := of_decide_eq_false h16; omega
  have hm := he1 hge1
  unfold Domain_ref8D1 at hm
  refine DW.exit ?_
  refine joinQ_exit ?_
  refine KQ_exit ?_
  refine blockQ_exit ?_
  show DW _ _ _ _ _
  refine Sq (RK hnt (nn 2 []) [(4, pI 0), (5, pB false)] [] tv ?_)
  obtain rfl := sj hm
  exact DW.ret (retK [] [] (.p (.tup [vi 0, vb false])))
abbrev o21 (ks : List Nat) (b : Bool) (RES : Int × Bool) : Orc := .call 36 ks b (.p (.tup [vi RES.1, vb RES.2])) [] []

abbrev c24e1 (p0 : Tree) (k1 : Nat) := (p0.nodes.getD k1 (default : Node))
theorem Children_ref5Spec (p0 : Tree) (p1 : Int) (RES : List Int) (hm : Children_ref5 p0 p1 = some RES) : Spec Tryz.prog 60 [.p (.agg (encTree p0)), pI p1] [] (ow 0 RES.length) [] [roI RES] := by
 unfold Children_ref5 at hm
 refine SO Tryz.func60 rfl rfl [(0, .p (.agg (encTree p0))), (1, pI p1)] [] ?_
 intro cx hnt
 refine Sq (RK hnt (nn 2 []) [(1, pI p1), (2, rr 1016)] [(1016, bx (pm (encTree p0)))] tv ?_)
 obtain ⟨r1, hr1, hm⟩ := bo hm
 refine Sq (Sq (RD hnt (nn 2 (o15 [] true r1 :: .no :: [])) [] [(10, pB (!r1))] [] [] (an (Has_ref5Spec p0 p1 r1 hr1) tv) ?_))
 refine condM hm ?_ ?_
 ·intro h2 hm
  refine Sq (RK hnt (.no :: []) [(4, .p (.sl .nil 0 0 (fun _ => [])))] [] tv ?_)
  refine DW.cv [] [(4, ow 100000 0)] [] [(100000, ob0 (roI []))] (Conv.ads [(.s 4, 100000, 1, elems encI 0 [])]) ?_
  obtain rfl := sj hm
  exact DW.ret (retK [roI []] [100000] (ow 0 0))
 ·intro h2 hm
  refine Sk ?_
  refine Sq (RD hnt (.no :: []) [10] [(5, .p (.sl .nil 0 0 (fun _ => [])))] [] [] tv ?_)
  refine Sq (Sq (RD hnt (.no :: []) [] [(6, pI 0)] [] [] tv ?_))
  refine Bk ?_
  obtain ⟨hc1, hm⟩ := go1 hm
  refine DW.rangeO (fun (k1 : Nat) (s1 : List Int) => mkSt [(1, pI p1), (2, rr 1016), (5, ow 1272 s1.length), (6, pI ((k1 : Nat) : Int))] [(1016, bx (pm (encTree p0))), (1272, ob0 (roI s1))]) dNode hm (Conv.ads [(.s 5, 1272, 1, elems encI 0 [])]) ?_
  intro k1 s1 n1 hk1 hs1 he1
  refine Sq (Sq (RD hnt (nn 5 []) [] [(15, pB (decide (((k1 : Nat) : Int) < ((p0.nodes.length : Nat) : Int))))] [] [] tv ?_))
  refine condK (decide (((k1 : Nat) : Int) < ((p0.nodes.length : Nat) : Int))) ?_ ?_
  ·intro h12
   have hlt1 : k1 < p0.nodes.length := by have := of_decide_eq_true h12; omega
   have hm := hs1 hlt1
   unfold Children_ref5L1 at hm
   refine Sk ?_
   refine Sq ?_
   refine Jn (ι := List Int) (fun (y3 : List Int) => mkSt [(1, pI p1), (2, rr 1016), (5, ow 1272 y3.length), (6, pI ((k1 : Nat) : Int))] [(1016, bx (pm (encTree p0))), (1272, ob0 (roI y3))]) (fun y3 => (Children_ref5J3 n1) y3 = some RES) ?_ ?_
   ·intro y3 hm
    unfold Children_ref5J3 at hm
    refine RD hnt (nn 3 []) [] [(6, pI (w64 (((k1 : Nat) : Int) + 1)))] [] [] tv ?_
    exact jD y3 ⟨hlt1, hm⟩ (Conv.tp [(6, pI (w64 (((k1 : Nat) : Int) + 1)))] [] (by kernel_rfl) (.cons rfl (.of_eq (congrArg pI (w64_succ hlt1 hc1))) .nil) .nil)
   ·refine Bk ?_
    refine Sq (RD hnt (nn 8 []) [15] [(25, pB ((c24e1 p0 k1).parent == p1))] [] [] (an (nn0 k1) (an (ltc hlt1) tv)) ?_)
    refine condM hm ?_ ?_
    ·intro h13 hm
     obtain ⟨g14, hm⟩ := go1 hm
     refine RN hnt (nn 10 []) [(1, pI p1), (2, rr 1016), (5, ow 1272 (s1 ++ [(c24e1 p0 k1).id]).length), (6, pI ((k1 : Nat) : Int))] [(1016, bx (pm (encTree p0))), (1272, ob0 (roI (s1 ++ [(c24e1 p0 k1).id])))] [(5, ow 1272 (s1.length + 1))] [(1272, .row 1 (s1.length + 1) (catF s1.length (elI s1) (cut 1 [vi (c24e1 p0 k1).id])))] (an (nn0 k1) (an (ltc hlt1) (an (by omega : (s1.length + 1) * 8 ≤ 140737488355328) tv))) (by kernel_rfl) (.cons rfl (MLe.ownLen (enc := encI) (d := 0) (f := (catF s1.length (elI s1) (cut 1 [vi (c24e1 p0 k1).id]))) (RowIs.cat RowIs.elems (RowIs.lit (enc := encI) (d := 0) (n := 1) (f := (cut 1 [vi (c24e1 p0 k1).id])) [(c24e1 p0 k1).id] rfl (fun | 0, _ => rfl | n + 1, h => absurd h (by omega))))) .nil) (.cons rfl (BLe.typed (RowIs.cat RowIs.elems (RowIs.lit (enc := encI) (d := 0) (n := 1) (f := (cut 1 [vi (c24e1 p0 k1).id])) [(c24e1 p0 k1).id] rfl (fun | 0, _ => rfl | n + 1, h => absurd h (by omega))))) .nil) ?_
     exact bD (s1 ++ [(c24e1 p0 k1).id]) hm .refl
    ·intro h13 hm
     refine Sk ?_
     exact bD s1 hm Conv.t0
  ·intro h12
   have hge1 : ¬ k1 < p0.nodes.length := by have := of_decide_eq_false h12; omega
   have hm := he1 hge1
   unfold Children_ref5D1 at hm
   refine DW.exit ?_
   refine joinQ_exit ?_
   refine KQ_exit ?_
   refine blockQ_exit ?_
   show DW _ _ _ _ _
   refine Sq (RK hnt (nn 2 []) [(4, ow 1272 s1.length)] [(1272, ob0 (roI s1))] tv ?_)
   obtain rfl := sj hm
   exact DW.ret (retK [roI s1] [1272] (ow 0 s1.length))
abbrev o24 (ks : List Nat) (b : Bool) (RES : List Int) : Orc := .call 60 ks b (ow 0 RES.length) [] [roI RES]

theorem Type_ref8BSpec (rec : Tree → Int → Option Int) (ih : ∀ (p0 : Tree) (p1 : Int) (RES : Int), rec p0 p1 = some RES → Spec Tryz.prog 37 [.p (.agg (encTree p0)), pI p1] [] (pI RES) [] []) (p0 : Tree) (p1 : Int) (RES : Int) (hm : Type_ref8B rec p0 p1 = some RES) : Spec Tryz.prog 37 [.p (.agg (encTree p0)), pI p1] [] (pI RES) [] [] := by
 unfold Type_ref8B at hm
 refine SO Tryz.func37 rfl rfl [(0, .p (.agg (encTree p0))), (1, pI p1)] [] ?_
 intro cx hnt
 refine Sq (RK hnt (nn 2 []) [(1, pI p1), (2, rr 1016)] [(1016, bx (pm (encTree p0)))] tv ?_)
 obtain ⟨r1, hr1, hm⟩ := bo hm
 refine Sq (RD hnt (nn 2 (o16 [] true r1 :: nn 6 [])) [] [(5, rr 1040), (6, pB r1.2)] [] [(1040, bx (pm (encNode r1.1)))] (an (Find_ref5Spec p0 p1 r1 hr1) tv) ?_)
 refine Sq (Sq (RD hnt (nn 2 []) [6] [(20, pB (!r1.2))] [] [] tv ?_))
 refine condM hm ?_ ?_
 ·intro h2 hm
  refine Sq (RK hnt (.no :: []) [(4, pI 0)] [] tv ?_)
  obtain rfl := sj hm
  exact DW.ret (retK [] [] (pI 0))
 ·intro h2 hm
  refine Sk ?_
  refine Sq (Sq (RD hnt (nn 3 []) [20] [(23, pB (r1.1.kind == 1))] [] [] tv ?_))
  refine condM hm ?_ ?_
  ·intro h3 hm
   refine Sq (RK hnt (.no :: []) [(4, pI 2)] [] tv ?_)
   obtain rfl := sj hm
   exact DW.ret (retK [] [] (pI 2))
  ·intro h3 hm
   refine Sk ?_
   obtain ⟨r4, hr4, hm⟩ := bo hm
   refine Sq (Sq (RD hnt (nn 3 (o16 [] true r4 :: nn 6 [])) [5, 23] [(7, rr 1056), (8, pB r4.2)] [1040] [(1056, bx (pm (encNode r4.1)))] (an (Find_ref5Spec p0 r1.1.parent r4 hr4) tv) ?_))
   refine Sq ?_
   refine Jn (ι := Bool) (fun (y1 : Bool) => mkSt [(1, pI p1), (2, rr 1016), (43, pB y1)] [(1016, bx (pm (encTree p0)))]) (fun y1 => (Type_ref8J1 p0 p1) y1 = some RES) ?_ ?_
   ·intro y1 hm
    unfold Type_ref8J1 at hm
    refine condM hm ?_ ?_
    ·intro h8 hm
     refine Sq (RK hnt (.no :: []) [(4, pI 3)] [] tv ?_)
     obtain rfl := sj hm
     exact DW.ret (retK [] [] (pI 3))
    ·intro h8 hm
     refine Sk ?_
     obtain ⟨r9, hr9, hm⟩ := bo hm
     refine Sq (RD hnt (nn 2 (o24 [] true r9 :: .no :: [])) [1, 43] [(9, ow 1368 r9.length)] [] [(1368, ob0 (roI r9))] (an (Children_ref5Spec p0 p1 r9 hr9) tv) ?_)
     refine Sq (Sq (RD hnt (.no :: []) [] [(10, pI 0)] [] [] tv ?_))
     refine Bk ?_
     obtain ⟨hc1, hm⟩ := go1 hm
     refine DW.rangeO (fun (k1 : Nat) (s1 : Unit) => mkSt [(2, rr 1016), (9, ow 1368 r9.length), (10, pI ((k1 : Nat) : Int))] [(1016, bx (pm (encTree p0))), (1368, ob0 (roI r9))]) 0 hm Conv.eqK ?_
     intro k1 s1 n1 hk1 hs1 he1
     refine Sq (Sq (RD hnt (nn 4 []) [] [(50, pB (decide (((k1 : Nat) : Int) < ((r9.length : Nat) : Int))))] [] [] tv ?_))
     refine condK (decide (((k1 : Nat) : Int) < ((r9.length : Nat) : Int))) ?_ ?_
     ·intro h20
      have hlt1 : k1 < r9.length := by have := of_decide_eq_true h20; omega
      have hm := hs1 hlt1
      unfold Type_ref8L1 at hm
      refine Sk ?_
      refine Sq (Bk ?_)
      obtain ⟨r21, hr21, hm⟩ := bo hm
      refine Sq (RD hnt (nn 5 (o16 [] true r21 :: nn 6 [])) [50] [(11, rr 1088)] [] [(1088, bx (pm (encNode r21.1)))] (an (nn0 k1) (an (ltc hlt1) (an (by omega : k1 < r9.length) (an (Find_ref5Spec p0 (r9.getD k1 0) r21 hr21) tv)))) ?_)
      refine Sq (RD hnt (nn 3 []) [11] [(64, pB (r21.1.kind == 1))] [1088] [] tv ?_)
      refine condM hm ?_ ?_
      ·intro h22 hm
       refine Sq (RK hnt (.no :: []) [(4, pI 1)] [] tv ?_)
       obtain rfl := sj hm
       exact DW.ret (retK [] [] (pI 1))
      ·intro h22 hm
       refine Sk ?_
       refine DW.done ?_
       show DW _ _ _ _ _
       refine RD hnt (nn 3 []) [64] [(10, pI (w64 (((k1 : Nat) : Int) + 1)))] [] [] tv ?_
       exact jD () ⟨hlt1, hm⟩ (Conv.tp [(10, pI (w64 (((k1 : Nat) : Int) + 1)))] [] (by kernel_rfl) (.cons rfl (.of_eq (congrArg pI (w64_succ hlt1 hc1))) .nil) .nil)
     ·intro h20
      have hge1 : ¬ k1 < r9.length := by have := of_decide_eq_false h20; omega
      have hm := he1 hge1
      unfold Type_ref8D1 at hm
      refine DW.exit ?_
      refine joinQ_exit ?_
      refine KQ_exit ?_
      refine blockQ_exit ?_
      show DW _ _ _ _ _
      refine Sq (RK hnt (.no :: []) [(4, pI 0)] [] tv ?_)
      obtain rfl := sj hm
      exact DW.ret (retK [] [] (pI 0))
   ·rcases bt r4.2 with h5 | h5
    ·replace hm := if_t h5 hm
     rcases bt (r4.1.kind == 1) with h6 | h6
     ·replace hm := if_t h6 hm
      refine RD hnt (nn 6 (sk 5 (pT :: pT :: []))) [7, 8] [(43, pB true)] [1056] [] (an4 h5 (an5 h6 (an h5 (an h6 (an h5 tv))))) ?_
      exact jD true hm Conv.eqK
     ·replace hm := if_f h6 hm
      obtain ⟨r7, hr7, hm⟩ := bo hm
      refine RD hnt (nn 9 (.call 37 [] true (pI r7) [] [] :: .no :: pF :: pT :: [])) [7, 8] [(43, pB (r7 == 3))] [1056] [] (an4 h5 (an4 h6 (an (ih p0 r4.1.id r7 hr7) (an h6 (an h5 (an h6 (an h5 tv))))))) ?_
      exact jD (r7 == 3) hm Conv.eqK
    ·replace hm := if_f h5 hm
     refine RD hnt (nn 2 (sk 10 (pF :: []))) [7, 8] [(43, pB false)] [1056] [] (an6 h5 tv) ?_
     exact jD false hm Conv.eqK
theorem Type_ref8FSpec : ∀ (n : Nat) (p0 : Tree) (p1 : Int) (RES : Int), Type_ref8F n p0 p1 = some RES → Spec Tryz.prog 37 [.p (.agg (encTree p0)), pI p1] [] (pI RES) [] []
  | 0, p0, p1, RES, hm => by simp [Type_ref8F] at hm
  | n + 1, p0, p1, RES, hm => Type_ref8BSpec (Type_ref8F n) (Type_ref8FSpec n) p0 p1 RES hm
theorem Type_ref8Spec (p0 : Tree) (p1 : Int) (RES : Int) (hm : Type_ref8 p0 p1 = some RES) : Spec Tryz.prog 37 [.p (.agg (encTree p0)), pI p1] [] (pI RES) [] [] := Type_ref8FSpec FUEL p0 p1 RES hm
abbrev o23 (ks : List Nat) (b : Bool) (RES : Int) : Orc := .call 37 ks b (pI RES) [] []

abbrev c7e1 (p0 : Hierarchy) (k4 : Nat) := (p0.tree.nodes.getD k4 (default : Node))
abbrev c7e2 (p0 : Hierarchy) : Nat × Obj := (1008, bx (pm (encHierarchy p0)))
theorem Fits_ref8Spec (p0 : Hierarchy) (RES : Bool) (hm : Fits_ref8 p0 = some RES) : Spec Tryz.prog 34 [.p (.agg (encHierarchy p0))] [] (pB RES) [] [] := by
 unfold Fits_ref8 at hm
 refine SO Tryz.func34 rfl rfl [(0, .p (.agg (encHierarchy p0)))] [] ?_
 intro cx hnt
 refine Sq (RK hnt (nn 2 []) [(1, rr 1008)] [(c7e2 p0)] tv ?_)
 obtain ⟨r1, hr1, hm⟩ := bo hm
 refine Sq (Sq (RD hnt (.no :: o8 [] true r1 :: .no :: []) [] [(16, pB (!r1))] [] [] (an (Sound_ref7Spec p0 r1 hr1) tv) ?_))
 refine condM hm ?_ ?_
 ·intro h2 hm
  refine Sq (RK hnt (.no :: []) [(2, pB false)] [] tv ?_)
  obtain rfl := sj hm
  exact DW.ret (retK [] [] (pB false))
 ·intro h2 hm
  refine Sk ?_
  refine Sq (Sq (RD hnt (.no :: []) [16] [(3, pI 0)] [] [] tv ?_))
  refine Bk ?_
  obtain ⟨hc1, hm⟩ := go1 hm
  refine DW.rangeO (fun (k1 : Nat) (s1 : Unit) => mkSt [(1, rr 1008), (3, pI ((k1 : Nat) : Int))] [(c7e2 p0)]) dTask hm Conv.eqK ?_
  intro k1 s1 n1 hk1 hs1 he1
  refine Sq (Sq (RD hnt (nn 5 []) [] [(21, pB (decide (((k1 : Nat) : Int) < ((p0.tasks.length : Nat) : Int))))] [] [] tv ?_))
  refine condK (decide (((k1 : Nat) : Int) < ((p0.tasks.length : Nat) : Int))) ?_ ?_
  ·intro h99
   have hlt1 : k1 < p0.tasks.length := by have := of_decide_eq_true h99; omega
   have hm := hs1 hlt1
   unfold Fits_ref8L1 at hm
   refine Sk ?_
   refine Sq (Bk ?_)
   obtain ⟨r100, hr100, hm⟩ := bo hm
   refine Sq (RD hnt (nn 7 (o20 [] true r100 :: nn 6 [])) [21] [(4, rr 1032)] [] [(1032, bx (pm (encTask r100.1)))] (an (nn0 k1) (an (ltc hlt1) (an (Find_ref6Spec p0 (p0.tasks.getD k1 (default : Task)).process r100 hr100) tv))) ?_)
   obtain ⟨r101, hr101, hm⟩ := bo hm
   refine Sq (RD hnt (nn 8 (o21 [] true r101 :: nn 5 [])) [] [(6, pI r101.1)] [] [] (an (nn0 k1) (an (ltc hlt1) (an (Domain_ref8Spec p0.tree (p0.tasks.getD k1 (default : Task)).group r101 hr101) tv))) ?_)
   obtain ⟨r102, hr102, hm⟩ := bo hm
   refine Sq (RD hnt (nn 4 (o21 [] true r102 :: nn 5 [])) [4] [(8, pI r102.1)] [1032] [] (an (Domain_ref8Spec p0.tree r100.1.group r102 hr102) tv) ?_)
   refine Sq (RD hnt (nn 3 []) [6, 8] [(57, pB (r101.1 != r102.1))] [] [] tv ?_)
   refine condM hm ?_ ?_
   ·intro h103 hm
    refine Sq (RK hnt (.no :: []) [(2, pB false)] [] tv ?_)
    obtain rfl := sj hm
    exact DW.ret (retK [] [] (pB false))
   ·intro h103 hm
    refine Sk ?_
    refine DW.done ?_
    show DW _ _ _ _ _
    refine RD hnt (nn 3 []) [57] [(3, pI (w64 (((k1 : Nat) : Int) + 1)))] [] [] tv ?_
    exact jD () ⟨hlt1, hm⟩ (Conv.tp [(3, pI (w64 (((k1 : Nat) : Int) + 1)))] [] (by kernel_rfl) (.cons rfl (.of_eq (congrArg pI (w64_succ hlt1 hc1))) .nil) .nil)
  ·intro h99
   have hge1 : ¬ k1 < p0.tasks.length := by have := of_decide_eq_false h99; omega
   have hm := he1 hge1
   unfold Fits_ref8D1 at hm
   refine DW.exit ?_
   refine joinQ_exit ?_
   refine KQ_exit ?_
   refine blockQ_exit ?_
   show DW _ _ _ _ _
   refine Sq (Sq (RD hnt (.no :: []) [3, 21] [(10, pI 0)] [] [] tv ?_))
   refine Bk ?_
   obtain ⟨hc4, hm⟩ := go1 hm
   refine DW.rangeO (fun (k4 : Nat) (s4 : Unit) => mkSt [(1, rr 1008), (10, pI ((k4 : Nat) : Int))] [(c7e2 p0)]) dNode hm Conv.eqK ?_
   intro k4 s4 n4 hk4 hs4 he4
   refine Sq (Sq (RD hnt (nn 6 []) [] [(63, pB (decide (((k4 : Nat) : Int) < ((p0.tree.nodes.length : Nat) : Int))))] [] [] tv ?_))
   refine condK (decide (((k4 : Nat) : Int) < ((p0.tree.nodes.length : Nat) : Int))) ?_ ?_
   ·intro h132
    have hlt4 : k4 < p0.tree.nodes.length := by have := of_decide_eq_true h132; omega
    have hm := hs4 hlt4
    unfold Fits_ref8L4 at hm
    refine Sk ?_
    refine Sq (Bk ?_)
    refine Sq (RD hnt (nn 8 []) [63] [(11, rr 1088)] [] [(1088, bx (pm (encNode (c7e1 p0 k4))))] (an (nn0 k4) (an (ltc hlt4) tv)) ?_)
    obtain ⟨r133, hr133, hm⟩ := bo hm
    refine Sq (RD hnt (nn 4 (o16 [] true r133 :: nn 6 [])) [] [(12, rr 1096)] [] [(1096, bx (pm (encNode r133.1)))] (an (Find_ref5Spec p0.tree (c7e1 p0 k4).parent r133 hr133) tv) ?_)
    obtain ⟨r134, hr134, hm⟩ := bo hm
    refine Sq (Sq ?_)
    refine Jn (ι := Bool) (fun (y17 : Bool) => mkSt [(1, rr 1008), (10, pI ((k4 : Nat) : Int)), (11, rr 1088), (12, rr 1096), (98, pB y17)] [(c7e2 p0), (1088, bx (pm (encNode (c7e1 p0 k4)))), (1096, bx (pm (encNode r133.1)))]) (fun y17 => (Fits_ref8J17 p0 (c7e1 p0 k4) n4 r133) y17 = some RES) ?_ ?_
    ·intro y17 hm
     unfold Fits_ref8J17 at hm
     refine condM hm ?_ ?_
     ·intro h138 hm
      refine Sq (RK hnt (.no :: []) [(2, pB false)] [] tv ?_)
      obtain rfl := sj hm
      exact DW.ret (retK [] [] (pB false))
     ·intro h138 hm
      refine Sk ?_
      refine Sq ?_
      refine Jn (ι := Bool) (fun (y18 : Bool) => mkSt [(1, rr 1008), (10, pI ((k4 : Nat) : Int)), (120, pB y18)] [(c7e2 p0)]) (fun y18 => (Fits_ref8J18 n4) y18 = some RES) ?_ ?_
      ·intro y18 hm
       unfold Fits_ref8J18 at hm
       refine condM hm ?_ ?_
       ·intro h144 hm
        refine Sq (RK hnt (.no :: []) [(2, pB false)] [] tv ?_)
        obtain rfl := sj hm
        exact DW.ret (retK [] [] (pB false))
       ·intro h144 hm
        refine Sk ?_
        refine DW.done ?_
        show DW _ _ _ _ _
        refine RD hnt (nn 3 []) [120] [(10, pI (w64 (((k4 : Nat) : Int) + 1)))] [] [] tv ?_
        exact jD () ⟨hlt4, hm⟩ (Conv.tp [(10, pI (w64 (((k4 : Nat) : Int) + 1)))] [] (by kernel_rfl) (.cons rfl (.of_eq (congrArg pI (w64_succ hlt4 hc4))) .nil) .nil)
      ·rcases bt ((c7e1 p0 k4).kind == 1) with h139 | h139
       ·replace hm := if_t h139 hm
        rcases bt (r133.1.id != 1) with h140 | h140
        ·replace hm := if_t h140 hm
         rcases bt ((kand .i64 r133.1.control 6) != 0) with h141 | h141
         ·replace hm := if_t h141 hm
          refine RD hnt (nn 12 (pT :: .no :: sk 6 (pT :: pT :: []))) [11, 12, 98] [(120, pB true)] [1088, 1096] [] (an4 h139 (an4 h140 (an h139 (an h140 (an h139 (an6 h141 (an h139 (an h141 (an h139 tv))))))))) ?_
          exact jD true hm Conv.eqK
         ·replace hm := if_f h141 hm
          obtain ⟨r142, hr142, hm⟩ := bo hm
          refine RD hnt (nn 12 (pT :: nn 5 (o23 [] true r142 :: .no :: pF :: pT :: []))) [11, 12, 98] [(120, pB (r142 == 3))] [1088, 1096] [] (an4 h139 (an4 h140 (an h139 (an h140 (an h139 (an5 h141 (an (Type_ref8Spec p0.tree r133.1.id r142 hr142) (an h141 (an h139 (an h141 (an h139 tv))))))))))) ?_
          exact jD (r142 == 3) hm Conv.eqK
        ·replace hm := if_f h140 hm
         obtain ⟨r143, hr143, hm⟩ := bo hm
         refine RD hnt (nn 8 (sk 4 (pF :: nn 5 (o23 [] true r143 :: .no :: pF :: pT :: [])))) [11, 12, 98] [(120, pB (r143 == 3))] [1088, 1096] [] (an4 h139 (an4 h140 (an h139 (an h140 (an h139 (an5 ff (an (Type_ref8Spec p0.tree r133.1.id r143 hr143) (an ff (an h139 (an ff (an h139 tv))))))))))) ?_
         exact jD (r143 == 3) hm Conv.eqK
       ·replace hm := if_f h139 hm
        refine RD hnt (nn 4 (sk 17 (pF :: []))) [11, 12, 98] [(120, pB false)] [1088, 1096] [] (an2 h139 (an6 h139 tv)) ?_
        exact jD false hm Conv.eqK
    ·rcases bt (r134 == 3) with h135 | h135
     ·replace hm := if_t h135 hm
      rcases bt ((c7e1 p0 k4).control != 0) with h136 | h136
      ·replace hm := if_t h136 hm
       refine RD hnt (nn 4 (o23 [] true r134 :: nn 6 (sk 6 (pT :: pT :: [])))) [] [(98, pB true)] [] [] (an (Type_ref8Spec p0.tree (c7e1 p0 k4).id r134 hr134) (an4 h135 (an6 h136 (an h135 (an h136 (an h135 tv)))))) ?_
       exact jD true hm Conv.eqK
      ·replace hm := if_f h136 hm
       obtain ⟨r137, hr137, hm⟩ := bo hm
       refine RD hnt (nn 4 (o23 [] true r134 :: nn 9 (o19 [] true r137 :: nn 2 (pF :: pT :: [])))) [] [(98, pB (decide (((r137.length : Nat) : Int) > 0)))] [] [] (an (Type_ref8Spec p0.tree (c7e1 p0 k4).id r134 hr134) (an4 h135 (an4 h136 (an (Tasks_ref6Spec p0 (c7e1 p0 k4).id r137 hr137) (an2 h136 (an h135 (an h136 (an h135 tv)))))))) ?_
       exact jD (decide (((r137.length : Nat) : Int) > 0)) hm Conv.eqK
     ·replace hm := if_f h135 hm
      refine RD hnt (nn 4 (o23 [] true r134 :: nn 2 (sk 11 (pF :: [])))) [] [(98, pB false)] [] [] (an (Type_ref8Spec p0.tree (c7e1 p0 k4).id r134 hr134) (an6 h135 tv)) ?_
      exact jD false hm Conv.eqK
   ·intro h132
    have hge4 : ¬ k4 < p0.tree.nodes.length := by have := of_decide_eq_false h132; omega
    have hm := he4 hge4
    unfold Fits_ref8D4 at hm
    refine DW.exit ?_
    refine joinQ_exit ?_
    refine KQ_exit ?_
    refine blockQ_exit ?_
    show DW _ _ _ _ _
    refine Sq (RK hnt (.no :: []) [(2, pB true)] [] tv ?_)
    obtain rfl := sj hm
    exact DW.ret (retK [] [] (pB true))
abbrev o7 (ks : List Nat) (b : Bool) (RES : Bool) : Orc := .call 34 ks b (pB RES) [] []

theorem Depth_ref5Spec (p0 : Tree) (p1 : Int) (RES : Int) (hm : Depth_ref5 p0 p1 = some RES) : Spec Tryz.prog 145 [.p (.agg (encTree p0)), pI p1] [] (pI RES) [] [] := by
 unfold Depth_ref5 at hm
 refine SO Tryz.func145 rfl rfl [(0, .p (.agg (encTree p0))), (1, pI p1)] [] ?_
 intro cx hnt
 refine Sq (RK hnt (nn 2 []) [(1, pI p1), (2, rr 1016)] [(1016, bx (pm (encTree p0)))] tv ?_)
 obtain ⟨r1, hr1, hm⟩ := bo hm
 refine Sq (RK hnt (nn 2 (o22 [] true r1 :: nn 3 [])) [(4, pI (w64 (((r1.length : Nat) : Int) - 1)))] [] (an (Ancestors_ref5Spec p0 p1 r1 hr1) tv) ?_)
 obtain rfl := sj hm
 exact DW.ret (retK [] [] (pI (w64 (((r1.length : Nat) : Int) - 1))))
abbrev o26 (ks : List Nat) (b : Bool) (RES : Int) : Orc := .call 145 ks b (pI RES) [] []

theorem Copy_ref5Spec (p0 : Tree) (RES : Tree) (hm : Copy_ref5 p0 = some RES) : Spec Tryz.prog 123 [.p (.agg (encTree p0))] [] (.agg [ow 0 RES.nodes.length, pI RES.next]) [] [roNode RES.nodes] := by
 unfold Copy_ref5 at hm
 refine SO Tryz.func123 rfl rfl [(0, .p (.agg (encTree p0)))] [] ?_
 intro cx hnt
 refine Sq (RK hnt (nn 2 []) [(1, rr 1008), (2, rr 1016)] [(1008, bx (pm (encTree p0))), (1016, bx [.p (.sl .nil 0 0 (fun _ => [])), pI 0])] tv ?_)
 obtain ⟨g1, hm⟩ := go1 hm
 refine Sq (RN hnt (nn 7 []) [(2, rr 1016)] [(1016, bx [ow 1040 p0.nodes.length, pI p0.next]), (1040, ob0 (roNode p0.nodes))] [] [(1040, .row 6 p0.nodes.length (elNode p0.nodes))] (an (by omega : p0.nodes.length * 56 ≤ 140737488355328) tv) (by kernel_rfl) .nil (.cons rfl (BLe.typed RowIs.elems) .nil) ?_)
 obtain rfl := sj hm
 exact DW.ret (retK [roNode p0.nodes] [1040] (.agg [ow 0 p0.nodes.length, pI p0.next]))
abbrev o27 (ks : List Nat) (b : Bool) (RES : Tree) : Orc := .call 123 ks b (.agg [ow 0 RES.nodes.length, pI RES.next]) [] [roNode RES.nodes]

abbrev c25e1 (p0 : Tree) (p1 : Int) (p2 : ByteArray) := ({ id := p0.next, parent := p1, name := p2, control := 0, kind := 0, owner := 0 } : Node)
abbrev c25e2 : Nat × Obj := (1048, bx [.p (.sl .nil 0 0 (fun _ => [])), pI 0])
abbrev c25e3 (p0 : Tree) : Nat × Obj := (1024, bx (pm (encTree p0)))
abbrev c25e4 : Nat × Obj := (1048, bx [ow 100000 0, pI 0])
theorem Add_ref5Spec (p0 : Tree) (p1 : Int) (p2 : ByteArray) (RES : Tree × Int × Int) (hm : Add_ref5 p0 p1 p2 = some RES) : Spec Tryz.prog 98 [.p (.agg (encTree p0)), pI p1, pS p2] [] (.tup [.agg [ow 0 RES.1.nodes.length, pI RES.1.next], pI RES.2.1, pI RES.2.2]) [] [roNode RES.1.nodes] := by
 unfold Add_ref5 at hm
 refine SO Tryz.func98 rfl rfl [(0, .p (.agg (encTree p0))), (1, pI p1), (2, pS p2)] [] ?_
 intro cx hnt
 refine Sq (RD hnt (nn 4 []) [0] [(3, rr 1024), (6, rr 1048)] [] [(c25e3 p0), (c25e2)] tv ?_)
 obtain ⟨r1, hr1, hm⟩ := bo hm
 refine Sq (Sq ?_)
 refine Jn (ι := Bool) (fun (y1 : Bool) => mkSt [(1, pI p1), (2, pS p2), (3, rr 1024), (6, rr 1048), (18, pB y1)] [(c25e3 p0), (c25e2)]) (fun y1 => (Add_ref5J1 p0 p1 p2) y1 = some RES) ?_ ?_
 ·intro y1 hm
  unfold Add_ref5J1 at hm
  refine condM hm ?_ ?_
  ·intro h4 hm
   refine Sq (RD hnt (nn 4 []) [1, 2, 3, 18] [(7, pI 0), (8, pI 1)] [1024] [] tv ?_)
   refine DW.cv [] [] [] [(c25e4), (100000, ob0 (roNode []))] (Conv.ads [(.o 1048 0, 100000, 6, elems encNode dNode [])]) ?_
   obtain rfl := sj hm
   exact DW.ret (retK [roNode []] [100000] (.tup [.agg [ow 0 0, pI 0], pI 0, pI 1]))
  ·intro h4 hm
   refine Sk ?_
   obtain ⟨r5, hr5, hm⟩ := bo hm
   refine Sq (Sq (RD hnt (nn 2 (o15 [] true r5 :: .no :: [])) [18] [(23, pB (!r5))] [] [] (an (Has_ref5Spec p0 p1 r5 hr5) tv) ?_))
   refine condM hm ?_ ?_
   ·intro h6 hm
    refine Sq (RD hnt (nn 4 []) [1, 2, 3, 23] [(7, pI 0), (8, pI 4)] [1024] [] tv ?_)
    refine DW.cv [] [] [] [(c25e4), (100000, ob0 (roNode []))] (Conv.ads [(.o 1048 0, 100000, 6, elems encNode dNode [])]) ?_
    obtain rfl := sj hm
    exact DW.ret (retK [roNode []] [100000] (.tup [.agg [ow 0 0, pI 0], pI 0, pI 4]))
   ·intro h6 hm
    refine Sk ?_
    refine Sq (Sq (RD hnt (.no :: []) [23] [(9, pI 0)] [] [] tv ?_))
    refine Bk ?_
    obtain ⟨hc1, hm⟩ := go1 hm
    refine DW.rangeO (fun (k1 : Nat) (s1 : Unit) => mkSt [(1, pI p1), (2, pS p2), (3, rr 1024), (6, rr 1048), (9, pI ((k1 : Nat) : Int))] [(c25e3 p0), (c25e2)]) dNode hm Conv.eqK ?_
    intro k1 s1 n1 hk1 hs1 he1
    refine Sq (Sq (RD hnt (nn 5 []) [] [(29, pB (decide (((k1 : Nat) : Int) < ((p0.nodes.length : Nat) : Int))))] [] [] tv ?_))
    refine condK (decide (((k1 : Nat) : Int) < ((p0.nodes.length : Nat) : Int))) ?_ ?_
    ·intro h29
     have hlt1 : k1 < p0.nodes.length := by have := of_decide_eq_true h29; omega
     have hm := hs1 hlt1
     unfold Add_ref5L1 at hm
     refine Sk ?_
     refine Sq (Bk ?_)
     refine Sq (DW.regJ (sl2 := [(1, pI p1), (2, pS p2), (3, rr 1024), (6, rr 1048), (9, pI ((k1 : Nat) : Int)), (49, pB (((p0.nodes.getD k1 (default : Node)).parent == p1) && (beqS (p0.nodes.getD k1 (default : Node)).name p2)))]) (ob2 := [(c25e3 p0), (c25e2)]) ?_ ?_)
     ·rcases bt ((p0.nodes.getD k1 (default : Node)).parent == p1) with h30 | h30
      ·exact RT hnt (nn 17 (pT :: [])) [(49, pB (beqS (p0.nodes.getD k1 (default : Node)).name p2))] (an (nn0 k1) (an (ltc hlt1) (an4 h30 (an (nn0 k1) (an (ltc hlt1) (an5 h30 tv)))))) (by kernel_rfl) (.cons rfl (.of_eq (by rw [h30]; try rfl)) .nil)
      ·exact RT hnt (nn 9 (sk 8 (pF :: []))) [(49, pB false)] (an (nn0 k1) (an (ltc hlt1) (an3 h30 (an6 h30 tv)))) (by kernel_rfl) (.cons rfl (.of_eq (by rw [h30]; try rfl)) .nil)
     ·refine condM hm ?_ ?_
      ·intro h31 hm
       refine Sq (RD hnt (nn 4 []) [1, 2, 3, 9, 49] [(7, pI 0), (8, pI 5)] [1024] [] tv ?_)
       refine DW.cv [] [] [] [(c25e4), (100000, ob0 (roNode []))] (Conv.ads [(.o 1048 0, 100000, 6, elems encNode dNode [])]) ?_
       obtain rfl := sj hm
       exact DW.ret (retK [roNode []] [100000] (.tup [.agg [ow 0 0, pI 0], pI 0, pI 5]))
      ·intro h31 hm
       refine Sk ?_
       refine DW.done ?_
       show DW _ _ _ _ _
       refine RD hnt (nn 3 []) [49] [(9, pI (w64 (((k1 : Nat) : Int) + 1)))] [] [] tv ?_
       exact jD () ⟨hlt1, hm⟩ (Conv.tp [(9, pI (w64 (((k1 : Nat) : Int) + 1)))] [] (by kernel_rfl) (.cons rfl (.of_eq (congrArg pI (w64_succ hlt1 hc1))) .nil) .nil)
    ·intro h29
     have hge1 : ¬ k1 < p0.nodes.length := by have := of_decide_eq_false h29; omega
     have hm := he1 hge1
     unfold Add_ref5D1 at hm
     refine DW.exit ?_
     refine joinQ_exit ?_
     refine KQ_exit ?_
     refine blockQ_exit ?_
     show DW _ _ _ _ _
     obtain ⟨r32, hr32, hm⟩ := bo hm
     refine Sq (Sq ?_)
     refine Jn (ι := Bool) (fun (y6 : Bool) => mkSt [(1, pI p1), (2, pS p2), (3, rr 1024), (6, rr 1048), (65, pB y6)] [(c25e3 p0), (c25e2)]) (fun y6 => (Add_ref5J6 p0 p1 p2) y6 = some RES) ?_ ?_
     ·intro y6 hm
      unfold Add_ref5J6 at hm
      refine condM hm ?_ ?_
      ·intro h35 hm
       refine Sq (RD hnt (nn 4 []) [1, 2, 3, 65] [(7, pI 0), (8, pI 7)] [1024] [] tv ?_)
       refine DW.cv [] [] [] [(c25e4), (100000, ob0 (roNode []))] (Conv.ads [(.o 1048 0, 100000, 6, elems encNode dNode [])]) ?_
       obtain rfl := sj hm
       exact DW.ret (retK [roNode []] [100000] (.tup [.agg [ow 0 0, pI 0], pI 0, pI 7]))
      ·intro h35 hm
       refine Sk ?_
       obtain ⟨r36, hr36, hm⟩ := bo hm
       refine Sq (RD hnt (.no :: o27 [] true r36 :: nn 2 []) [65] [(10, rr 1080)] [] [(1080, bx [ow 1544 r36.nodes.length, pI r36.next]), (1544, ob0 (roNode r36.nodes))] (an (Copy_ref5Spec p0 r36 hr36) tv) ?_)
       obtain ⟨g37, hm⟩ := go1 hm
       refine Sq (RN hnt (nn 11 []) [(3, rr 1024), (6, rr 1048), (10, rr 1080)] [(c25e3 p0), (c25e2), (1080, bx [ow 1544 (r36.nodes ++ [(c25e1 p0 p1 p2)]).length, pI r36.next]), (1544, ob0 (roNode (r36.nodes ++ [(c25e1 p0 p1 p2)])))] [] [(1080, .box [ow 1544 (r36.nodes.length + 1), pI r36.next]), (1544, .row 6 (r36.nodes.length + 1) (catF r36.nodes.length (elNode r36.nodes) (cut 6 [vi p0.next, vi p1, vs p2, vi 0, vi 0, vi 0])))] (an (by omega : (r36.nodes.length + 1) * 56 ≤ 140737488355328) tv) (by kernel_rfl) .nil (.cons rfl (.box (.cons (MLe.ownLen (enc := encNode) (d := dNode) (f := (catF r36.nodes.length (elNode r36.nodes) (cut 6 [vi p0.next, vi p1, vs p2, vi 0, vi 0, vi 0]))) (RowIs.cat RowIs.elems (RowIs.lit (enc := encNode) (d := dNode) (n := 1) (f := (cut 6 [vi p0.next, vi p1, vs p2, vi 0, vi 0, vi 0])) [(c25e1 p0 p1 p2)] rfl (fun | 0, _ => rfl | n + 1, h => absurd h (by omega))))) (.cons .rfl .nil))) (.cons rfl (BLe.typed (RowIs.cat RowIs.elems (RowIs.lit (enc := encNode) (d := dNode) (n := 1) (f := (cut 6 [vi p0.next, vi p1, vs p2, vi 0, vi 0, vi 0])) [(c25e1 p0 p1 p2)] rfl (fun | 0, _ => rfl | n + 1, h => absurd h (by omega))))) .nil)) ?_)
       refine Sq (RD hnt (nn 5 []) [] [] [] [(1080, bx [ow 1544 (r36.nodes ++ [(c25e1 p0 p1 p2)]).length, pI (w64 (r36.next + 1))])] tv ?_)
       refine Sq (RD hnt (nn 6 []) [3, 10] [(7, pI p0.next), (8, pI 0)] [1024, 1080] [(1048, bx [ow 1544 (r36.nodes ++ [(c25e1 p0 p1 p2)]).length, pI (w64 (r36.next + 1))])] tv ?_)
       obtain rfl := sj hm
       exact DW.ret (retK [roNode (r36.nodes ++ [(c25e1 p0 p1 p2)])] [1544] (.tup [.agg [ow 0 (r36.nodes ++ [(c25e1 p0 p1 p2)]).length, pI (w64 (r36.next + 1))], pI p0.next, pI 0]))
     ·rcases bt (decide (r32 ≥ 8)) with h33 | h33
      ·replace hm := if_t h33 hm
       refine RD hnt (nn 2 (o26 [] true r32 :: nn 2 (sk 4 (pT :: .no :: sk 3 (pT :: []))))) [9, 29] [(65, pB true)] [] [] (an (Depth_ref5Spec p0 p1 r32 hr32) (an5 h33 (an4 tt tv))) ?_
       exact jD true hm Conv.eqK
      ·replace hm := if_f h33 hm
       rcases bt (decide (((p0.nodes.length : Nat) : Int) ≥ 64)) with h34 | h34
       ·replace hm := if_t h34 hm
        refine RD hnt (nn 2 (o26 [] true r32 :: nn 6 (pF :: .no :: sk 3 (pT :: [])))) [9, 29] [(65, pB true)] [] [] (an (Depth_ref5Spec p0 p1 r32 hr32) (an5 h33 (an4 h34 tv))) ?_
        exact jD true hm Conv.eqK
       ·replace hm := if_f h34 hm
        refine RD hnt (nn 2 (o26 [] true r32 :: nn 6 (pF :: nn 4 (pF :: [])))) [9, 29] [(65, pB (decide (p0.next > 2147483647)))] [] [] (an (Depth_ref5Spec p0 p1 r32 hr32) (an5 h33 (an4 h34 tv))) ?_
        exact jD (decide (p0.next > 2147483647)) hm Conv.eqK
 ·rcases bt (!r1) with h2 | h2
  ·replace hm := if_t h2 hm
   refine RD hnt (.no :: o10 [] true r1 :: nn 2 (sk 3 (pT :: []))) [] [(18, pB true)] [] [] (an (Check_ref5Spec p0 r1 hr1) (an4 h2 tv)) ?_
   exact jD true hm Conv.eqK
  ·replace hm := if_f h2 hm
   obtain ⟨r3, hr3, hm⟩ := bo hm
   refine RD hnt (.no :: o10 [] true r1 :: nn 3 (o12 [] true r3 :: .no :: pF :: [])) [] [(18, pB (!r3))] [] [] (an (Check_ref5Spec p0 r1 hr1) (an2 h2 (an (Valid_ref1Spec p2 r3 hr3) (an2 h2 tv)))) ?_
   exact jD (!r3) hm Conv.eqK
abbrev o25 (ks : List Nat) (b : Bool) (RES : Tree × Int × Int) : Orc := .call 98 ks b (.tup [.agg [ow 0 RES.1.nodes.length, pI RES.1.next], pI RES.2.1, pI RES.2.2]) [] [roNode RES.1.nodes]

theorem Copy_ref6Spec (p0 : Hierarchy) (RES : Hierarchy) (hm : Copy_ref6 p0 = some RES) : Spec Tryz.prog 82 [.p (.agg (encHierarchy p0))] [] (.agg [ow 0 RES.tree.nodes.length, pI RES.tree.next, ow 1 RES.tasks.length, pI RES.next]) [] [roNode RES.tree.nodes, roTask RES.tasks] := by
 unfold Copy_ref6 at hm
 refine SO Tryz.func82 rfl rfl [(0, .p (.agg (encHierarchy p0)))] [] ?_
 intro cx hnt
 refine Sq (RK hnt (nn 2 []) [(1, rr 1008), (2, rr 1016)] [(1008, bx (pm (encHierarchy p0))), (1016, bx [.p (.sl .nil 0 0 (fun _ => [])), pI 0, .p (.sl .nil 0 0 (fun _ => [])), pI 0])] tv ?_)
 obtain ⟨r1, hr1, hm⟩ := bo hm
 obtain ⟨g2, hm⟩ := go1 hm
 refine Sq (RN hnt (nn 2 (o27 [] true r1 :: nn 7 [])) [(2, rr 1016)] [(1016, bx [ow 1040 r1.nodes.length, pI r1.next, ow 1064 p0.tasks.length, pI p0.next]), (1040, ob0 (roNode r1.nodes)), (1064, ob0 (roTask p0.tasks))] [] [(1064, .row 4 p0.tasks.length (elTask p0.tasks))] (an (Copy_ref5Spec p0.tree r1 hr1) (an (by omega : p0.tasks.length * 32 ≤ 140737488355328) tv)) (by kernel_rfl) .nil (.cons rfl (BLe.typed RowIs.elems) .nil) ?_)
 obtain rfl := sj hm
 exact DW.ret (retK [roNode r1.nodes, roTask p0.tasks] [1040, 1064] (.agg [ow 0 r1.nodes.length, pI r1.next, ow 1 p0.tasks.length, pI p0.next]))
abbrev o28 (ks : List Nat) (b : Bool) (RES : Hierarchy) : Orc := .call 82 ks b (.agg [ow 0 RES.tree.nodes.length, pI RES.tree.next, ow 1 RES.tasks.length, pI RES.next]) [] [roNode RES.tree.nodes, roTask RES.tasks]

theorem Create_ref8Spec (p0 : Hierarchy) (p1 : Int) (p2 : ByteArray) (RES : Hierarchy × Int × Int) (hm : Create_ref8 p0 p1 p2 = some RES) : Spec Tryz.prog 47 [.p (.agg (encHierarchy p0)), pI p1, pS p2] [] (.tup [.agg [ow 0 RES.1.tree.nodes.length, pI RES.1.tree.next, ow 1 RES.1.tasks.length, pI RES.1.next], pI RES.2.1, pI RES.2.2]) [] [roNode RES.1.tree.nodes, roTask RES.1.tasks] := by
 unfold Create_ref8 at hm
 refine SO Tryz.func47 rfl rfl [(0, .p (.agg (encHierarchy p0))), (1, pI p1), (2, pS p2)] [] ?_
 intro cx hnt
 refine Sq (RD hnt (nn 4 []) [0] [(3, rr 1024), (6, rr 1048)] [] [(1024, bx (pm (encHierarchy p0))), (1048, bx [.p (.sl .nil 0 0 (fun _ => [])), pI 0, .p (.sl .nil 0 0 (fun _ => [])), pI 0])] tv ?_)
 obtain ⟨r1, hr1, hm⟩ := bo hm
 refine Sq (Sq (RD hnt (.no :: o7 [] true r1 :: .no :: []) [] [(15, pB (!r1))] [] [] (an (Fits_ref8Spec p0 r1 hr1) tv) ?_))
 refine condM hm ?_ ?_
 ·intro h2 hm
  refine Sq (RD hnt (nn 4 []) [1, 2, 3, 15] [(7, pI 0), (8, pI 1)] [1024] [] tv ?_)
  refine DW.cv [] [] [] [(1048, bx [ow 100000 0, pI 0, ow 100001 0, pI 0]), (100000, ob0 (roNode [])), (100001, ob0 (roTask []))] (Conv.ads [(.o 1048 0, 100000, 6, elems encNode dNode []), (.o 1048 2, 100001, 4, elems encTask dTask [])]) ?_
  obtain rfl := sj hm
  exact DW.ret (retK [roNode [], roTask []] [100000, 100001] (.tup [.agg [ow 0 0, pI 0, ow 1 0, pI 0], pI 0, pI 1]))
 ·intro h2 hm
  refine Sk ?_
  obtain ⟨r3, hr3, hm⟩ := bo hm
  refine Sq (RD hnt (nn 4 (o25 [] true r3 :: nn 8 [])) [1, 2, 15] [(9, rr 1072), (10, pI r3.2.1), (11, pI r3.2.2)] [] [(1072, bx [ow 1176 r3.1.nodes.length, pI r3.1.next]), (1176, ob0 (roNode r3.1.nodes))] (an (Add_ref5Spec p0.tree p1 p2 r3 hr3) tv) ?_)
  refine Sq (Sq (RD hnt (nn 2 []) [] [(27, pB (r3.2.2 != 0))] [] [] tv ?_))
  refine condM hm ?_ ?_
  ·intro h4 hm
   refine Sq (RD hnt (nn 5 []) [3, 9, 10, 11, 27] [(7, pI 0), (8, pI r3.2.2)] [1024, 1072, 1176] [] tv ?_)
   refine DW.cv [] [] [] [(1048, bx [ow 100000 0, pI 0, ow 100001 0, pI 0]), (100000, ob0 (roNode [])), (100001, ob0 (roTask []))] (Conv.ads [(.o 1048 0, 100000, 6, elems encNode dNode []), (.o 1048 2, 100001, 4, elems encTask dTask [])]) ?_
   obtain rfl := sj hm
   exact DW.ret (retK [roNode [], roTask []] [100000, 100001] (.tup [.agg [ow 0 0, pI 0, ow 1 0, pI 0], pI 0, pI r3.2.2]))
  ·intro h4 hm
   refine Sk ?_
   obtain ⟨r5, hr5, hm⟩ := bo hm
   refine Sq (RD hnt (.no :: o28 [] true r5 :: nn 2 []) [3, 11, 27] [(12, rr 1096)] [1024] [(1096, bx [ow 1248 r5.tree.nodes.length, pI r5.tree.next, ow 1249 r5.tasks.length, pI r5.next]), (1248, ob0 (roNode r5.tree.nodes)), (1249, ob0 (roTask r5.tasks))] (an (Copy_ref6Spec p0 r5 hr5) tv) ?_)
   refine Sq (RD hnt (nn 3 []) [9] [] [1072, 1248] [(1096, bx [ow 1176 r3.1.nodes.length, pI r3.1.next, ow 1249 r5.tasks.length, pI r5.next])] tv ?_)
   refine Sq (RD hnt (nn 5 []) [10, 12] [(7, pI r3.2.1), (8, pI 0)] [1096] [(1048, bx [ow 1176 r3.1.nodes.length, pI r3.1.next, ow 1249 r5.tasks.length, pI r5.next])] tv ?_)
   obtain rfl := sj hm
   exact DW.ret (retK [roNode r3.1.nodes, roTask r5.tasks] [1176, 1249] (.tup [.agg [ow 0 r3.1.nodes.length, pI r3.1.next, ow 1 r5.tasks.length, pI r5.next], pI r3.2.1, pI 0]))
abbrev o6 (ks : List Nat) (b : Bool) (RES : Hierarchy × Int × Int) : Orc := .call 47 ks b (.tup [.agg [ow 0 RES.1.tree.nodes.length, pI RES.1.tree.next, ow 1 RES.1.tasks.length, pI RES.1.next], pI RES.2.1, pI RES.2.2]) [] [roNode RES.1.tree.nodes, roTask RES.1.tasks]

theorem AtFa_forestSpec (p0 : Node) (p1 : Int) (RES : Bool) (hm : AtFa_forest p0 p1 = some RES) : Spec Tryz.prog 140 [.p (.agg (encNode p0)), rr 0] [.box [pI p1]] (pB RES) [.box [pI p1]] [] := by
 unfold AtFa_forest at hm
 refine SO Tryz.func140 rfl rfl [(0, .p (.agg (encNode p0))), (1, rr 0)] [(0, bx [pI p1])] ?_
 intro cx hnt
 refine Sq (RD hnt (nn 2 []) [0] [(2, rr 1016)] [] [(1016, bx (pm (encNode p0)))] tv ?_)
 refine Sq (RK hnt (nn 5 []) [(3, pB (p0.id == p1))] [(0, bx [pI p1])] tv ?_)
 obtain rfl := sj hm
 exact DW.ret (retK [.box [pI p1]] [] (pB (p0.id == p1)))

theorem IndexFunc_slices_NodeQAtFa_forestSpec (p0 : List Node) (p1c0 : Int) (RES : Int) (hm : IndexFunc_slices_NodeQAtFa_forest p0 p1c0 = some RES) : Spec Tryz.prog 139 [.p (slNode p0), .fn 140 [rr 0]] [.box [pI p1c0]] (pI RES) [.box [pI p1c0]] [] := by
 unfold IndexFunc_slices_NodeQAtFa_forest at hm
 refine SO Tryz.func139 rfl rfl [(0, .p (slNode p0)), (1, .fn 140 [rr 0])] [(0, bx [pI p1c0])] ?_
 intro cx hnt
 refine Sq (RD hnt (.no :: []) [] [] [] [] tv ?_)
 refine Sq (Sq (RD hnt (nn 3 []) [] [(7, pI ((p0.length : Nat) : Int)), (8, pI 0)] [] [] tv ?_))
 refine Bk ?_
 obtain ⟨hc1, hm⟩ := go1 hm
 refine DW.rangeO (fun (k1 : Nat) (s1 : Unit) => mkSt [(0, .p (slNode p0)), (1, .fn 140 [rr 0]), (7, pI ((p0.length : Nat) : Int)), (8, pI ((k1 : Nat) : Int))] [(0, bx [pI p1c0])]) dNode hm Conv.eqK ?_
 intro k1 s1 n1 hk1 hs1 he1
 refine Sq (RD hnt (.no :: []) [] [(9, pB (decide (((k1 : Nat) : Int) < ((p0.length : Nat) : Int))))] [] [] tv ?_)
 refine Sq (condK (decide (((k1 : Nat) : Int) < ((p0.length : Nat) : Int))) ?_ ?_)
 ·intro h9
  have hlt1 : k1 < p0.length := by have := of_decide_eq_true h9; omega
  have hm := hs1 hlt1
  unfold IndexFunc_slices_NodeQAtFa_forestL1 at hm
  refine Sk ?_
  refine Sq (Bk ?_)
  refine Sq (RD hnt (nn 2 []) [9] [(5, pI ((k1 : Nat) : Int))] [] [] tv ?_)
  obtain ⟨r10, hr10, hm⟩ := bo hm
  refine Sq (RD hnt (nn 5 (.call 140 [0] true (pB r10) [.box [pI p1c0]] [] :: [])) [] [(16, pB r10)] [] [] (an (nn0 k1) (an (ltc hlt1) (an (AtFa_forestSpec (p0.getD k1 (default : Node)) p1c0 r10 hr10) (an tv tv)))) ?_)
  refine condM hm ?_ ?_
  ·intro h11 hm
   refine Sq (RK hnt (nn 2 []) [(4, pI ((k1 : Nat) : Int))] [(0, bx [pI p1c0])] tv ?_)
   obtain rfl := sj hm
   exact DW.ret (retK [.box [pI p1c0]] [] (pI ((k1 : Nat) : Int)))
  ·intro h11 hm
   refine Sk ?_
   refine DW.done ?_
   show DW _ _ _ _ _
   refine RD hnt (nn 2 []) [5, 16] [(8, pI (w64 (((k1 : Nat) : Int) + 1)))] [] [] tv ?_
   exact jD () ⟨hlt1, hm⟩ (Conv.tp [(8, pI (w64 (((k1 : Nat) : Int) + 1)))] [] (by kernel_rfl) (.cons rfl (.of_eq (congrArg pI (w64_succ hlt1 hc1))) .nil) .nil)
 ·intro h9
  have hge1 : ¬ k1 < p0.length := by have := of_decide_eq_false h9; omega
  have hm := he1 hge1
  unfold IndexFunc_slices_NodeQAtFa_forestD1 at hm
  refine DW.exit ?_
  refine joinQ_exit ?_
  refine KQ_exit ?_
  refine blockQ_exit ?_
  show DW _ _ _ _ _
  refine Sq (RK hnt (.no :: []) [(4, pI (-1))] [(0, bx [pI p1c0])] tv ?_)
  obtain rfl := sj hm
  exact DW.ret (retK [.box [pI p1c0]] [] (pI (-1)))

theorem At_forestSpec (p0 : Tree) (p1 : Int) (RES : Int) (hm : At_forest p0 p1 = some RES) : Spec Tryz.prog 95 [.p (.agg (encTree p0)), pI p1] [] (pI RES) [] [] := by
 unfold At_forest at hm
 refine SO Tryz.func95 rfl rfl [(0, .p (.agg (encTree p0))), (1, pI p1)] [] ?_
 intro cx hnt
 refine Sq (RK hnt (nn 3 []) [(2, rr 1016), (3, rr 1024)] [(1016, bx (pm (encTree p0))), (1024, bx [pI p1])] tv ?_)
 obtain ⟨r1, hr1, hm⟩ := bo hm
 refine Sq (RK hnt (nn 3 (.call 139 [1024] true (pI r1) [.box [pI p1]] [] :: .no :: [])) [(4, pI r1)] [] (an (IndexFunc_slices_NodeQAtFa_forestSpec p0.nodes p1 r1 hr1) (an tv tv)) ?_)
 obtain rfl := sj hm
 exact DW.ret (retK [] [] (pI r1))
abbrev o30 (ks : List Nat) (b : Bool) (RES : Int) : Orc := .call 95 ks b (pI RES) [] []

theorem root_treeSpec (p0 : Node) (RES : Bool) (hm : root_tree p0 = some RES) : Spec Tryz.prog 149 [.p (.agg (encNode p0))] [] (pB RES) [] [] := by
 unfold root_tree at hm
 refine SO Tryz.func149 rfl rfl [(0, .p (.agg (encNode p0)))] [] ?_
 intro cx hnt
 refine Sq (RK hnt (nn 2 []) [(1, rr 1008)] [(1008, bx (pm (encNode p0)))] tv ?_)
 refine Sq (DW.regJ (sl2 := [(2, pB ((((p0.id == 1) && (p0.parent == 0)) && (beqS p0.name ByteArray.empty)) && (p0.kind == 0)))]) (ob2 := []) ?_ ?_)
 ·rcases bt (p0.id == 1) with h1 | h1
  ·rcases bt (p0.parent == 0) with h2 | h2
   ·rcases bt (beqS p0.name ByteArray.empty) with h3 | h3
    ·exact RT hnt (nn 7 (pT :: nn 4 (pT :: nn 4 (pT :: .no :: [])))) [(2, pB (p0.kind == 0))] (an4 h1 (an4 h2 (an4 h3 tv))) (by kernel_rfl) (.cons rfl (.of_eq (by rw [h1, h2, h3]; try rfl)) .nil)
    ·exact RT hnt (nn 7 (pT :: nn 4 (pT :: .no :: sk 3 (pF :: .no :: [])))) [(2, pB false)] (an4 h1 (an4 h2 (an4 h3 tv))) (by kernel_rfl) (.cons rfl (.of_eq (by rw [h1, h2, h3]; try rfl)) .nil)
   ·exact RT hnt (nn 7 (pT :: .no :: sk 3 (pF :: .no :: sk 3 (pF :: .no :: [])))) [(2, pB false)] (an4 h1 (an4 h2 (an4 ff tv))) (by kernel_rfl) (.cons rfl (.of_eq (by rw [h1, h2]; try rfl)) .nil)
  ·exact RT hnt (nn 4 (sk 3 (pF :: .no :: sk 3 (pF :: .no :: sk 3 (pF :: .no :: []))))) [(2, pB false)] (an4 h1 (an2 ff (an6 ff tv))) (by kernel_rfl) (.cons rfl (.of_eq (by rw [h1]; try rfl)) .nil)
 ·refine DW.ret ?_
  obtain rfl := sj hm
  exact retK [] [] (pB ((((p0.id == 1) && (p0.parent == 0)) && (beqS p0.name ByteArray.empty)) && (p0.kind == 0)))
abbrev o34 (ks : List Nat) (b : Bool) (RES : Bool) : Orc := .call 149 ks b (pB RES) [] []
end Go.Dm

