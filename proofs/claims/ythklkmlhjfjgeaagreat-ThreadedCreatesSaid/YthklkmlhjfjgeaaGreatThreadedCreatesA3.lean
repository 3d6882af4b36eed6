/- Texts of the proof of ThreadedCreates: the data machine, the models of the Go functions, their contracts. -/
import Derived.Test.YthklkmlhjfjgeaaGreatThreadedCreatesA2
import Derived.Test.YthklkmlhjfjgeaaGreatThreadedCreatesA1
import Derived.Test.YthklkmlhjfjgeaaGreatProg
set_option linter.unusedVariables false
set_option linter.unusedSimpArgs false
/- Plain theory, part 24: kinds of groups, domains, what fits. -/
namespace Go.Dm
def nodeN (t : Tree) (a : Int) : Node := (getN t a).getD zN
def thrN (t : Tree) (a : Int) : Bool := (nodeN t a).kind == 1
def invN (t : Tree) (id : Int) : Bool := ((upT t id).find? (thrN t)).elim false (fun x => x != id)
def domN (t : Tree) (id : Int) : Int := ((upT t id).find? (fun a => !thrN t a)).getD 0
def typeN (t : Tree) (id : Int) : Int := if !hasN t id then 0 else if thrN t id then 2 else if invN t id then 3 else if (kidsN t id).any (thrN t) then 1 else 0
theorem find5 {t : Tree} (w : WfT t) (id : Int) : Find_ref5 t id = some (nodeN t id, hasN t id) := by
 rw [Find_ref5_t w]
 unfold nodeN hasN
 cases getN t id <;> rfl
theorem findF {t : Tree} (w : WfT t) (id : Int) : Find_forest t id = some (nodeN t id, hasN t id) := by
 have := w.len2
 rw [Find_forest_eq t id (by omega)]
 unfold nodeN hasN
 cases getN t id <;> rfl
theorem find6 {h : Hierarchy} (w : WfH h) (id : Int) : Find_ref6 h id = some ((getK h.tasks id).getD zK, (getK h.tasks id).isSome) := by
 rw [Find_ref6_t w]
 cases getK h.tasks id <;> rfl
theorem nodeN_of {t : Tree} (w : WfT t) {x : Node} (hx : x ∈ t.nodes) : nodeN t x.id = x := by
 unfold nodeN
 rw [getN_of w.sorted hx]
 rfl
theorem nodeN_not {t : Tree} {id : Int} (h : hasN t id = false) : nodeN t id = zN := by
 unfold nodeN hasN at *
 cases hg : getN t id with
 | none => rfl
 | some x => rw [hg] at h; simp at h
theorem nodeN_id {t : Tree} {id : Int} (h : hasN t id = true) : (nodeN t id).id = id ∧ nodeN t id ∈ t.nodes := by
 unfold nodeN hasN at *
 cases hg : getN t id with
 | none => rw [hg] at h; simp at h
 | some x => exact ⟨(getN_some hg).2, (getN_some hg).1⟩
theorem ancN_up {t : Tree} (id : Int) : ancN t id = upT t id := by
 unfold ancN
 cases hg : hasN t id with
 | true => rfl
 | false =>
  have : upT t id = [] := upR_none fun y hy e => by
   have := hasN_iff.mpr ⟨y, by simpa using hy, e⟩
   rw [hg] at this
   simp at this
  rw [this]
  rfl
theorem up_not {t : Tree} {id : Int} (h : hasN t id = false) : upT t id = [] := upR_none fun y hy e => by
 have := hasN_iff.mpr ⟨y, by simpa using hy, e⟩
 rw [h] at this
 simp at this
theorem up_cons {t : Tree} (w : WfT t) {id : Int} (h : hasN t id = true) : upT t id = id :: upT t (nodeN t id).parent := by
 obtain ⟨e, hx⟩ := nodeN_id h
 have := w.up hx
 rw [e] at this
 exact this
theorem has_zero {t : Tree} (w : WfT t) : hasN t 0 = false := by
 cases h : hasN t 0 with
 | false => rfl
 | true =>
  obtain ⟨x, hx, e⟩ := hasN_iff.mp h
  have := w.id_pos hx
  omega
theorem has_parent {t : Tree} (w : WfT t) {x : Node} (hx : x ∈ t.nodes) (h1 : x.id ≠ 1) : hasN t x.parent = true := by
 rcases w.p.par x hx with ⟨h, _⟩ | ⟨_, _, ⟨z, hz, e⟩, _⟩
 ·exact absurd h h1
 ·exact hasN_iff.mpr ⟨z, hz, e⟩
theorem root_node {t : Tree} (w : WfT t) {x : Node} (hx : x ∈ t.nodes) (h1 : x.id = 1) : x.parent = 0 ∧ x.kind = 0 := by
 rcases w.p.par x hx with ⟨_, r⟩ | ⟨h, h2, _⟩
 ·exact ⟨r.parent, r.kind⟩
 ·omega
theorem Domain_ref8_t {t : Tree} (w : WfT t) (id : Int) : Domain_ref8 t id = some (domN t id, ((upT t id).find? (fun a => !thrN t a)).isSome) := by
 unfold Domain_ref8
 rw [Ancestors_ref5_t w, ancN_up, Option.bind_some]
 have hu := upT_len w id
 rw [if_pos (by omega), range_find (p := fun a => !thrN t a) (f := fun a => (a, true)) (z := (0, false)) (fun k x n => by
  unfold Domain_ref8L1
  rw [find5 w]
  simp only [Option.bind_some]
  rfl) rfl]
 unfold domN
 cases (upT t id).find? (fun a => !thrN t a) <;> rfl
theorem domain_threaded_t {t : Tree} (w : WfT t) (id : Int) : domain_threaded t id = some (domN t id) := by
 unfold domain_threaded
 rw [Ancestors_forest_t w, Option.bind_some]
 have hu := upT_len w id
 rw [if_pos (by omega), range_find (p := fun a => !thrN t a) (f := fun a => a) (z := 0) (fun k x n => by
  unfold domain_threadedL1
  rw [findF w]
  simp only [Option.bind_some]
  rfl) rfl]
 unfold domN
 cases (upT t id).find? (fun a => !thrN t a) <;> rfl
theorem invalid_threaded_t {t : Tree} (w : WfT t) (id : Int) : invalid_threaded t id = some (invN t id) := by
 unfold invalid_threaded
 rw [Ancestors_forest_t w, Option.bind_some]
 have hu := upT_len w id
 rw [if_pos (by omega), range_find (p := thrN t) (f := fun a => a != id) (z := false) (fun k x n => by
  unfold invalid_threadedL1
  rw [findF w]
  simp only [Option.bind_some]
  rfl) rfl]
 rfl
theorem inv_step {t : Tree} (w : WfT t) {id : Int} (h : hasN t id = true) (hk : thrN t id = false) : invN t id = (hasN t (nodeN t id).parent && (thrN t (nodeN t id).parent || invN t (nodeN t id).parent)) := by
 obtain ⟨e, hx⟩ := nodeN_id h
 unfold invN
 rw [up_cons w h, List.find?_cons, hk]
 simp only
 cases hp : hasN t (nodeN t id).parent with
 | false =>
  rw [up_not hp]
  rfl
 | true =>
  rw [up_cons w hp, List.find?_cons]
  cases hq : thrN t (nodeN t id).parent with
  | true =>
   have := w.par_lt hx
   simp
   omega
  | false =>
   simp only [Bool.true_and, Bool.false_or]
   cases hf : (upT t (nodeN t (nodeN t id).parent).parent).find? (thrN t) with
   | none => rfl
   | some y =>
    have hy := List.mem_of_find?_eq_some hf
    obtain ⟨q, hq2⟩ := nodeN_id hp
    have h0 : hasN t (nodeN t (nodeN t id).parent).parent = true := by
     obtain ⟨z, hz, ez⟩ := up_node hy
     exact hasN_iff.mpr ⟨z, hz, ez⟩
    obtain ⟨q3, hq4⟩ := nodeN_id h0
    rw [← q3] at hy
    have h1 := up_le w _ hq4 _ hy
    have h2 := w.par_lt hq2
    have h3 := w.par_lt hx
    rw [q3] at h1
    have a1 : (y != id) = true := by rw [bne_iff_ne]; omega
    have a2 : (y != (nodeN t id).parent) = true := by rw [bne_iff_ne]; omega
    show (y != id) = (y != (nodeN t id).parent)
    rw [a1, a2]
theorem Type_ref8J1_t {t : Tree} (w : WfT t) {id : Int} (h : hasN t id = true) (b : Bool) : Type_ref8J1 t id b = some (if b then 3 else if (kidsN t id).any (thrN t) then 1 else 0) := by
 unfold Type_ref8J1
 cases b with
 | true => rfl
 | false =>
  simp only [Bool.false_eq_true, if_false]
  rw [Children_ref5_t w, if_pos h, Option.bind_some]
  have := kidsN_length t id
  have := w.len2
  rw [if_pos (by omega), range_find (p := thrN t) (f := fun _ => (1 : Int)) (z := (0 : Int)) (fun k x n => by
   unfold Type_ref8L1
   rw [find5 w]
   simp only [Option.bind_some]
   rfl) rfl]
  cases hf : (kidsN t id).find? (thrN t) with
  | none =>
   rw [List.find?_eq_none] at hf
   have : (kidsN t id).any (thrN t) = false := by
    rw [List.any_eq_false]
    exact hf
   rw [this]
   rfl
  | some y =>
   have : (kidsN t id).any (thrN t) = true := List.any_eq_true.mpr ⟨y, List.mem_of_find?_eq_some hf, List.find?_some hf⟩
   rw [this]
   rfl
theorem Type_ref8F_t {t : Tree} (w : WfT t) : ∀ (n : Nat) (id : Int), id.toNat < n → Type_ref8F n t id = some (typeN t id) := by
 intro n
 induction n with
 | zero => intro id h; omega
 | succ n ih =>
  intro id hn
  rw [Type_ref8F]
  unfold Type_ref8B
  rw [find5 w, Option.bind_some]
  unfold typeN
  cases h : hasN t id with
  | false => rfl
  | true =>
   simp only [Bool.not_true, Bool.false_eq_true, if_false]
   obtain ⟨e, hx⟩ := nodeN_id h
   cases hk : thrN t id with
   | true =>
    have hk' : ((nodeN t id).kind == 1) = true := hk
    rw [hk']
    rfl
   | false =>
    have hk' : ((nodeN t id).kind == 1) = false := hk
    rw [hk']
    simp only [Bool.false_eq_true, if_false]
    rw [find5 w, Option.bind_some, inv_step w h hk]
    simp only
    cases hp : hasN t (nodeN t id).parent with
    | false =>
     simp only [Bool.false_eq_true, if_false, Bool.false_and]
     rw [Type_ref8J1_t w h]
     rfl
    | true =>
     obtain ⟨q, hq2⟩ := nodeN_id hp
     simp only [if_true, Bool.true_and]
     cases hq : thrN t (nodeN t id).parent with
     | true =>
      have hq' : ((nodeN t (nodeN t id).parent).kind == 1) = true := hq
      rw [hq']
      simp only [if_true, Bool.true_or]
      exact Type_ref8J1_t w h true
     | false =>
      have hq' : ((nodeN t (nodeN t id).parent).kind == 1) = false := hq
      rw [hq']
      simp only [Bool.false_eq_true, if_false, Bool.false_or]
      have h1 := w.par_lt hx
      have h2 := w.id_pos hq2
      rw [q] at h2 ⊢
      rw [ih _ (by omega), Option.bind_some, Type_ref8J1_t w h]
      have : (typeN t (nodeN t id).parent == 3) = invN t (nodeN t id).parent := by
       unfold typeN
       rw [hp, hq]
       simp only [Bool.not_true, Bool.false_eq_true, if_false]
       cases invN t (nodeN t id).parent with
       | true => rfl
       | false =>
        simp only [Bool.false_eq_true, if_false]
        split <;> rfl
      rw [this]
theorem Type_ref8_t {t : Tree} (w : WfT t) (id : Int) : Type_ref8 t id = some (typeN t id) := by
 unfold Type_ref8
 by_cases h : id.toNat < FUEL
 ·exact Type_ref8F_t w FUEL id h
 ·have hid : hasN t id = false := by
   cases hh : hasN t id with
   | false => rfl
   | true =>
    obtain ⟨x, hx, e⟩ := hasN_iff.mp hh
    have h1 := w.next x hx
    have h2 := w.nextLe
    rw [FUEL_eq] at h
    omega
  have : FUEL = 1099511627775 + 1 := rfl
  rw [this, Type_ref8F]
  unfold Type_ref8B typeN
  rw [find5 w, Option.bind_some, hid]
  rfl
theorem type_inv {t : Tree} {id : Int} : typeN t id = 3 ↔ (hasN t id = true ∧ thrN t id = false ∧ invN t id = true) := by
 unfold typeN
 cases hasN t id <;> cases thrN t id <;> cases invN t id <;> simp <;> split <;> simp
def topN (t : Tree) (x : Node) : Int := if x.id == 1 then 31 else (nodeN t x.parent).control
def availN (t : Tree) (x : Node) : Int := if x.kind == 1 then kandNot .i64 (topN t x) 6 else topN t x
theorem kandNot_twice : (List.range 32).all (fun c => kandNot .i64 (kandNot .i64 (c : Int) 6) 6 == kandNot .i64 (c : Int) 6) = true := by decide +kernel
theorem kandNot_idem {c : Int} (h0 : 0 ≤ c) (h1 : c ≤ 31) : kandNot .i64 (kandNot .i64 c 6) 6 = kandNot .i64 c 6 := by
 have := List.all_eq_true.mp kandNot_twice c.toNat (by rw [List.mem_range]; omega)
 rw [show ((c.toNat : Nat) : Int) = c by omega] at this
 simpa using this
theorem control_bounds {t : Tree} (w : WfT t) (id : Int) : 0 ≤ (nodeN t id).control ∧ (nodeN t id).control ≤ 31 := by
 cases h : hasN t id with
 | false =>
  rw [nodeN_not h]
  simp [zN]
 | true =>
  have v := w.p.val _ (nodeN_id h).2
  exact ⟨v.c1, v.c2⟩
theorem from_control_t {t : Tree} (w : WfT t) (x : Node) : from_control t x = some (availN t x) := by
 have hJ : from_controlJ1 x (topN t x) = some (availN t x) := by
  unfold from_controlJ1 from_controlJ2 availN
  cases (x.kind == 1) <;> rfl
 unfold from_control
 by_cases h : x.id = 1
 ·have h1 : (x.id != 1) = false := by simp [h]
  have h2 : (x.id == 1) = true := by simp [h]
  have ht : topN t x = 31 := by
   unfold topN
   rw [h2]
   rfl
  rw [h1, if_neg (by simp), ← ht]
  exact hJ
 ·have h1 : (x.id != 1) = true := by simpa using h
  have h2 : (x.id == 1) = false := by simpa using h
  have ht : topN t x = (nodeN t x.parent).control := by
   unfold topN
   rw [h2]
   rfl
  rw [h1, if_pos rfl, findF w, Option.bind_some]
  simp only
  rw [← ht]
  exact hJ
theorem Available_ref7_t {t : Tree} (w : WfT t) {x : Node} (hx : x ∈ t.nodes) : Available_ref7 t x.id = some (availN t x) := by
 unfold Available_ref7
 rw [find5 w, Option.bind_some, nodeN_of w hx, has_of hx]
 simp only [Bool.not_true, Bool.false_eq_true, if_false]
 unfold Available_ref7J1 Available_ref7J2 availN
 by_cases h : x.id = 1
 ·have h1 : (x.id != 1) = false := by simp [h]
  have h2 : (x.id == 1) = true := by simp [h]
  have ht : topN t x = 31 := by
   unfold topN
   rw [h2]
   rfl
  rw [h1, if_neg (by simp), ht]
  cases (x.kind == 1) <;> simp
 ·have h1 : (x.id != 1) = true := by simpa using h
  have h2 : (x.id == 1) = false := by simpa using h
  have ht : topN t x = (nodeN t x.parent).control := by
   unfold topN
   rw [h2]
   rfl
  rw [h1, if_pos rfl]
  unfold Acting_ref7
  rw [find5 w, Option.bind_some, nodeN_of w hx, has_of hx]
  simp only [Bool.not_true, Bool.false_or, h2, Bool.false_eq_true, if_false]
  rw [find5 w, Option.bind_some, ht]
  simp only
  cases (x.kind == 1) with
  | false => simp
  | true =>
   have := control_bounds w x.parent
   simp only [if_true, Option.bind_some]
   rw [kandNot_idem this.1 this.2]
structure SndN (h : Hierarchy) (x : Node) : Prop where
 av : kandNot .i64 x.control (availN h.tree x) = 0
 busy : x.id ≠ 1 → kand .i64 x.control 6 ≠ 0 → tasksK h x.id = []
structure SoundP (h : Hierarchy) : Prop where
 wf : WfH h
 snd : ∀ x ∈ h.tree.nodes, SndN h x
structure FitN (h : Hierarchy) (x : Node) : Prop where
 inv : typeN h.tree x.id = 3 → x.control = 0 ∧ tasksK h x.id = []
 thr : x.kind = 1 → (x.parent ≠ 1 → kand .i64 (nodeN h.tree x.parent).control 6 = 0) ∧ typeN h.tree x.parent ≠ 3
def ldrK (h : Hierarchy) (x : Task) : Task := (getK h.tasks x.process).getD zK
structure FitsP (h : Hierarchy) : Prop where
 snd : SoundP h
 dom : ∀ x ∈ h.tasks, domN h.tree x.group = domN h.tree (ldrK h x).group
 nod : ∀ x ∈ h.tree.nodes, FitN h x
theorem mem_snoc {α : Type} {P : α → Prop} {pre : List α} {x : α} (h1 : ∀ y ∈ pre, P y) (h2 : P x) : ∀ y ∈ pre ++ [x], P y := by
 intro y hy
 rcases List.mem_append.mp hy with hy | hy
 ·exact h1 y hy
 ·obtain rfl : y = x := by simpa using hy
  exact h2
theorem len_pos_iff {l : List Int} : decide (((l.length : Nat) : Int) > 0) = false ↔ l = [] := by
 rw [decide_eq_false_iff_not]
 constructor
 ·intro h
  exact List.length_eq_zero_iff.mp (by omega)
 ·rintro rfl
  simp
theorem Sound_ref7_iff (h : Hierarchy) : Ok (Sound_ref7 h) (fun b => b = true ↔ SoundP h) := by
 have bad : ¬ SoundP h → Ok (some false) (fun b => b = true ↔ SoundP h) := fun hn => Ok.ret ⟨fun e => by simp at e, fun w => absurd w hn⟩
 unfold Sound_ref7
 refine Ok.bind (Check_ref6_ok h) fun b hb => ?_
 refine Ok.ite (fun c => bad fun s => ?_) fun c => ?_
 ·rw [hb.mpr s.wf] at c
  simp at c
 have w := hb.mp (by simpa using c)
 have l2 := w.tree.len2
 refine Ok.guard (by omega) ?_
 refine Ok.range (fun pre _ => ∀ x ∈ pre, SndN h x) (by simp) ?_ ?_
 ·intro pre x post _ n he hI hn
  have hx : x ∈ h.tree.nodes := by rw [he]; simp
  unfold Sound_ref7L1 Sound_ref7J3
  refine Ok.step (Available_ref7_t w.tree hx) ?_
  refine Ok.ite (fun c => bad fun s => ?_) fun c1 => ?_
  ·rw [(s.snd x hx).av] at c
   simp at c
  have c1 : kandNot .i64 x.control (availN h.tree x) = 0 := by simpa using c1
  refine Ok.ite (fun c2 => ?_) fun c2 => ?_
  ·have c2 : x.id ≠ 1 := by simpa using c2
   refine Ok.ite (fun c3 => ?_) fun c3 => ?_
   ·have c3 : kand .i64 x.control 6 ≠ 0 := by simpa using c3
    refine Ok.step (Tasks_ref6_t w x.id) ?_
    refine Ok.ite (fun c4 => bad fun s => ?_) fun c4 => ?_
    ·rw [(s.snd x hx).busy c2 c3] at c4
     simp at c4
    ·exact hn () (mem_snoc hI ⟨c1, fun _ _ => len_pos_iff.mp c4⟩)
   ·have c3 : kand .i64 x.control 6 = 0 := by simpa using c3
    exact hn () (mem_snoc hI ⟨c1, fun _ h => absurd c3 h⟩)
  ·have c2 : x.id = 1 := by simpa using c2
   exact hn () (mem_snoc hI ⟨c1, fun h => absurd c2 h⟩)
 ·intro _ hI
  exact Ok.ret ⟨fun _ => ⟨w, hI⟩, fun _ => rfl⟩
theorem Sound_control_iff {h : Hierarchy} (r : RawH h) : Ok (Sound_control h) (fun b => b = true ↔ SoundP h) := by
 have bad : ¬ SoundP h → Ok (some false) (fun b => b = true ↔ SoundP h) := fun hn => Ok.ret ⟨fun e => by simp at e, fun w => absurd w hn⟩
 unfold Sound_control
 refine Ok.bind (Check_member_ok h r.m) fun b hb => ?_
 refine Ok.ite (fun c => bad fun s => ?_) fun c => ?_
 ·rw [hb.mpr s.wf] at c
  simp at c
 have w := hb.mp (by simpa using c)
 have l1 := w.len
 have l2 := w.tree.len2
 refine Ok.guard (by omega) ?_
 refine Ok.range (fun pre _ => ∀ x ∈ pre, SndN h x) (by simp) ?_ ?_
 ·intro pre x post _ n he hI hn
  have hx : x ∈ h.tree.nodes := by rw [he]; simp
  unfold Sound_controlL1 Sound_controlJ3
  refine Ok.step (from_control_t w.tree x) ?_
  refine Ok.ite (fun c => bad fun s => ?_) fun c1 => ?_
  ·rw [(s.snd x hx).av] at c
   simp at c
  have c1 : kandNot .i64 x.control (availN h.tree x) = 0 := by simpa using c1
  refine Ok.ite (fun c2 => ?_) fun c2 => ?_
  ·have c2 : x.id ≠ 1 := by simpa using c2
   refine Ok.ite (fun c3 => ?_) fun c3 => ?_
   ·have c3 : kand .i64 x.control 6 ≠ 0 := by simpa using c3
    refine Ok.step (Tasks_crew_t w.sorted (by omega) x.id) ?_
    refine Ok.ite (fun c4 => bad fun s => ?_) fun c4 => ?_
    ·rw [(s.snd x hx).busy c2 c3] at c4
     simp at c4
    ·exact hn () (mem_snoc hI ⟨c1, fun _ _ => len_pos_iff.mp c4⟩)
   ·have c3 : kand .i64 x.control 6 = 0 := by simpa using c3
    exact hn () (mem_snoc hI ⟨c1, fun _ h => absurd c3 h⟩)
  ·have c2 : x.id = 1 := by simpa using c2
   exact hn () (mem_snoc hI ⟨c1, fun h => absurd c2 h⟩)
 ·intro _ hI
  exact Ok.ret ⟨fun _ => ⟨w, hI⟩, fun _ => rfl⟩
theorem nodeN_zero {t : Tree} (w : WfT t) : nodeN t 0 = zN := nodeN_not (has_zero w)
theorem par_id {t : Tree} (w : WfT t) {x : Node} (hx : x ∈ t.nodes) : (nodeN t x.parent).id = x.parent := by
 by_cases h : x.id = 1
 ·rw [(root_node w hx h).1, nodeN_zero w]
  rfl
 ·exact (nodeN_id (has_parent w hx h)).1
theorem Fits_ref8_iff (h : Hierarchy) : Ok (Fits_ref8 h) (fun b => b = true ↔ FitsP h) := by
 have bad : ¬ FitsP h → Ok (some false) (fun b => b = true ↔ FitsP h) := fun hn => Ok.ret ⟨fun e => by simp at e, fun w => absurd w hn⟩
 unfold Fits_ref8
 refine Ok.bind (Sound_ref7_iff h) fun b hb => ?_
 refine Ok.ite (fun c => bad fun s => ?_) fun c => ?_
 ·rw [hb.mpr s.snd] at c
  simp at c
 have snd := hb.mp (by simpa using c)
 have w := snd.wf
 have l1 := w.len
 have l2 := w.tree.len2
 refine Ok.guard (by omega) ?_
 refine Ok.range (fun pre _ => ∀ x ∈ pre, domN h.tree x.group = domN h.tree (ldrK h x).group) (by simp) ?_ ?_
 ·intro pre x post _ n he hI hn
  have hx : x ∈ h.tasks := by rw [he]; simp
  unfold Fits_ref8L1
  refine Ok.step (find6 w x.process) (Ok.step (Domain_ref8_t w.tree _) (Ok.step (Domain_ref8_t w.tree _) ?_))
  refine Ok.ite (fun c => bad fun s => ?_) fun c => ?_
  ·have := s.dom x hx
   unfold ldrK at this
   simp [this] at c
  ·refine hn () (mem_snoc hI ?_)
   unfold ldrK
   simpa using c
 ·intro _ hdom
  unfold Fits_ref8D1
  refine Ok.guard (by omega) ?_
  refine Ok.range (fun pre _ => ∀ x ∈ pre, FitN h x) (by simp) ?_ ?_
  ·intro pre x post _ n he hI hn
   have hx : x ∈ h.tree.nodes := by rw [he]; simp
   have hJ18 : ∀ b : Bool, (b = true → ¬ FitsP h) → (b = false → FitN h x) → Ok (Fits_ref8J18 n b) (fun b => b = true ↔ FitsP h) := by
    intro b b1 b2
    unfold Fits_ref8J18
    exact Ok.ite (fun c => bad (b1 c)) fun c => hn () (mem_snoc hI (b2 c))
   have hpid := par_id w.tree hx
   have hJ17 : ∀ b : Bool, (b = true → ¬ FitsP h) → (b = false → (typeN h.tree x.id = 3 → x.control = 0 ∧ tasksK h x.id = [])) → Ok (Fits_ref8J17 h x n (nodeN h.tree x.parent, hasN h.tree x.parent) b) (fun b => b = true ↔ FitsP h) := by
    intro b b1 b2
    unfold Fits_ref8J17
    refine Ok.ite (fun c => bad (b1 c)) fun c => ?_
    have binv := b2 c
    simp only
    rw [hpid]
    refine Ok.ite (fun c1 => ?_) fun c1 => ?_
    ·have c1 : x.kind = 1 := by simpa using c1
     refine Ok.ite (fun c2 => ?_) fun c2 => ?_
     ·have c2 : x.parent ≠ 1 := by simpa using c2
      refine Ok.ite (fun c3 => ?_) fun c3 => ?_
      ·have c3 : kand .i64 (nodeN h.tree x.parent).control 6 ≠ 0 := by simpa using c3
       exact hJ18 _ (fun _ s => c3 (((s.nod x hx).thr c1).1 c2)) (fun e => by simp at e)
      ·have c3 : kand .i64 (nodeN h.tree x.parent).control 6 = 0 := by simpa using c3
       refine Ok.step (Type_ref8_t w.tree _) (hJ18 _ (fun e s => ((s.nod x hx).thr c1).2 (by simpa using e)) fun e => ⟨binv, fun _ => ⟨fun _ => c3, by simpa using e⟩⟩)
     ·have c2 : x.parent = 1 := by simpa using c2
      refine Ok.step (Type_ref8_t w.tree _) (hJ18 _ (fun e s => ((s.nod x hx).thr c1).2 (by simpa using e)) fun e => ⟨binv, fun _ => ⟨fun q => absurd c2 q, by simpa using e⟩⟩)
    ·have c1 : x.kind ≠ 1 := by simpa using c1
     exact hJ18 _ (fun e => by simp at e) fun _ => ⟨binv, fun q => absurd q c1⟩
   unfold Fits_ref8L4
   refine Ok.step (find5 w.tree _) (Ok.step (Type_ref8_t w.tree _) ?_)
   refine Ok.ite (fun c1 => ?_) fun c1 => ?_
   ·have c1 : typeN h.tree x.id = 3 := by simpa using c1
    refine Ok.ite (fun c2 => ?_) fun c2 => ?_
    ·have c2 : x.control ≠ 0 := by simpa using c2
     exact hJ17 _ (fun _ s => c2 ((s.nod x hx).inv c1).1) fun e => by simp at e
    ·have c2 : x.control = 0 := by simpa using c2
     refine Ok.step (Tasks_ref6_t w _) (hJ17 _ (fun e s => ?_) fun e _ => ⟨c2, len_pos_iff.mp e⟩)
     rw [((s.nod x hx).inv c1).2] at e
     simp at e
   ·have c1 : typeN h.tree x.id ≠ 3 := by simpa using c1
    exact hJ17 _ (fun e => by simp at e) fun _ q => absurd q c1
  ·intro _ hnod
   exact Ok.ret ⟨fun _ => ⟨snd, hdom, hnod⟩, fun _ => rfl⟩
theorem fits_threaded_t {h : Hierarchy} (w : WfH h) {x : Node} (hx : x ∈ h.tree.nodes) : Ok (fits_threaded h x) (fun b => b = true ↔ FitN h x) := by
 have l1 := w.len
 have hself := nodeN_of w.tree hx
 unfold fits_threaded fits_threadedJ1 fits_threadedJ2
 refine Ok.ite (fun c => ?_) fun c => ?_
 ·have c : x.kind ≠ 1 := by simpa using c
  have ht : thrN h.tree x.id = false := by
   unfold thrN
   rw [hself]
   simpa using c
  have hiff : typeN h.tree x.id = 3 ↔ invN h.tree x.id = true := by
   rw [type_inv, has_of hx, ht]
   simp
  have hfit : FitN h x ↔ (invN h.tree x.id = true → x.control = 0 ∧ tasksK h x.id = []) := by
   constructor
   ·intro f e
    exact f.inv (hiff.mpr e)
   ·intro f
    exact ⟨fun e => f (hiff.mp e), fun e => absurd e c⟩
  refine Ok.step (invalid_threaded_t w.tree x.id) ?_
  refine Ok.ite (fun c1 => Ok.ret ?_) fun c1 => ?_
  ·have c1 : invN h.tree x.id = false := by simpa using c1
   rw [hfit, c1]
   simp
  have c1 : invN h.tree x.id = true := by simpa using c1
  refine Ok.ite (fun c2 => ?_) fun c2 => Ok.ret ?_
  ·have c2 : x.control = 0 := by simpa using c2
   refine Ok.step (Tasks_crew_t w.sorted (by omega) x.id) (Ok.ret ?_)
   rw [hfit]
   constructor
   ·intro e _
    refine ⟨c2, List.length_eq_zero_iff.mp ?_⟩
    have : (((tasksK h x.id).length : Nat) : Int) = 0 := by simpa using e
    omega
   ·intro f
    rw [(f c1).2]
    rfl
  ·have c2 : x.control ≠ 0 := by simpa using c2
   rw [hfit]
   constructor
   ·intro e
    simp at e
   ·intro f
    exact absurd (f c1).1 c2
 ·have c : x.kind = 1 := by simpa using c
  have ht : thrN h.tree x.id = true := by
   unfold thrN
   rw [hself]
   simpa using c
  have hni : typeN h.tree x.id ≠ 3 := fun e => by
   have := (type_inv.mp e).2.1
   rw [ht] at this
   simp at this
  have hx1 : x.id ≠ 1 := fun e => by
   have := (root_node w.tree hx e).2
   omega
  have hp := has_parent w.tree hx hx1
  have hfit : FitN h x ↔ ((x.parent ≠ 1 → kand .i64 (nodeN h.tree x.parent).control 6 = 0) ∧ typeN h.tree x.parent ≠ 3) := by
   constructor
   ·intro f
    exact f.thr c
   ·intro f
    exact ⟨fun e => absurd e hni, fun _ => f⟩
  have fin : typeN h.tree x.parent ≠ 3 → ((((x.parent == 1) || (kand .i64 (nodeN h.tree x.parent).control 6 == 0)) = true) ↔ FitN h x) := by
   intro hty
   rw [hfit]
   simp only [Bool.or_eq_true, beq_iff_eq]
   constructor
   ·rintro (e | e)
    ·exact ⟨fun q => absurd e q, hty⟩
    ·exact ⟨fun _ => e, hty⟩
   ·rintro ⟨f, _⟩
    by_cases e : x.parent = 1
    ·exact .inl e
    ·exact .inr (f e)
  refine Ok.step (findF w.tree x.parent) ?_
  simp only
  refine Ok.ite (fun c1 => ?_) fun c1 => ?_
  ·have c1 : thrN h.tree x.parent = false := by
    unfold thrN
    simpa using c1
   refine Ok.step (invalid_threaded_t w.tree x.parent) ?_
   refine Ok.ite (fun c2 => Ok.ret ?_) fun c2 => Ok.ret (fin ?_)
   ·constructor
    ·intro e
     simp at e
    ·intro f
     exact absurd (type_inv.mpr ⟨hp, c1, c2⟩) (hfit.mp f).2
   ·intro e
    rw [(type_inv.mp e).2.2] at c2
    simp at c2
  ·have c1 : thrN h.tree x.parent = true := by
    unfold thrN
    simpa using c1
   refine Ok.ite (fun c2 => by simp at c2) fun _ => Ok.ret (fin fun e => ?_)
   have := (type_inv.mp e).2.1
   rw [c1] at this
   simp at this
theorem imap_get_set {α : Type} (m : IMap α) (k : Int) (v : α) (j : Int) : (m.set k v).get j = if j = k then v else m.get j := rfl
theorem Fits_threaded_iff {h : Hierarchy} (r : RawH h) : Ok (Fits_threaded h) (fun b => b = true ↔ FitsP h) := by
 have bad : ¬ FitsP h → Ok (some false) (fun b => b = true ↔ FitsP h) := fun hn => Ok.ret ⟨fun e => by simp at e, fun w => absurd w hn⟩
 unfold Fits_threaded
 refine Ok.bind (Sound_control_iff r) fun b hb => ?_
 refine Ok.ite (fun c => bad fun s => ?_) fun c => ?_
 ·rw [hb.mpr s.snd] at c
  simp at c
 have snd := hb.mp (by simpa using c)
 have w := snd.wf
 have l1 := w.len
 have l2 := w.tree.len2
 refine Ok.guard (by omega) ?_
 refine Ok.range (fun pre m => ∀ x ∈ pre, x.id = x.process → m.get x.id = domN h.tree x.group) (by simp) ?_ ?_
 ·intro pre x post m n he hI hn
  unfold Fits_threadedL1 Fits_threadedJ3
  refine Ok.ite (fun c => ?_) fun c => ?_
  ·refine Ok.step (domain_threaded_t w.tree x.group) (hn _ ?_)
   intro y hy hyp
   rw [imap_get_set]
   rcases List.mem_append.mp hy with hy | hy
   ·have : y.id ≠ x.id := fun e => by
     have hs := w.sorted
     rw [he, List.pairwise_append] at hs
     have := hs.2.2 y hy x (by simp)
     omega
    rw [if_neg this]
    exact hI y hy hyp
   ·obtain rfl : y = x := by simpa using hy
    rw [if_pos rfl]
  ·have c : ¬ x.id = x.process := by simpa using c
   exact hn _ (mem_snoc hI fun e => absurd e c)
 ·intro m hm
  have hld : ∀ x ∈ h.tasks, m.get x.process = domN h.tree (ldrK h x).group := by
   intro x hx
   obtain ⟨p, q1, q2, q3⟩ := (w.val x hx).ldr
   obtain ⟨hp, hpi⟩ := getK_some q1
   have := hm p hp (by omega)
   unfold ldrK
   rw [q1, ← hpi]
   exact this
  unfold Fits_threadedD1
  refine Ok.guard (by omega) ?_
  refine Ok.range (fun pre _ => ∀ x ∈ pre, domN h.tree x.group = domN h.tree (ldrK h x).group) (by simp) ?_ ?_
  ·intro pre x post _ n he hI hn
   have hx : x ∈ h.tasks := by rw [he]; simp
   unfold Fits_threadedL8
   refine Ok.step (domain_threaded_t w.tree x.group) ?_
   rw [hld x hx]
   refine Ok.ite (fun c => bad fun s => ?_) fun c => hn () (mem_snoc hI (by simpa using c))
   rw [s.dom x hx] at c
   simp at c
  ·intro _ hdom
   unfold Fits_threadedD8
   refine Ok.guard (by omega) ?_
   refine Ok.range (fun pre _ => ∀ x ∈ pre, FitN h x) (by simp) ?_ ?_
   ·intro pre x post _ n he hI hn
    have hx : x ∈ h.tree.nodes := by rw [he]; simp
    unfold Fits_threadedL11
    refine Ok.bind (fits_threaded_t w hx) fun b hb => ?_
    refine Ok.ite (fun c => bad fun s => ?_) fun c => hn () (mem_snoc hI (hb.mp (by simpa using c)))
    rw [hb.mpr (s.nod x hx)] at c
    simp at c
   ·intro _ hnod
    exact Ok.ret ⟨fun _ => ⟨snd, hdom, hnod⟩, fun _ => rfl⟩
theorem Fits_ref8_t {h : Hierarchy} (f : FitsP h) : Fits_ref8 h = some true := by
 obtain ⟨b, hb, e⟩ := Fits_ref8_iff h
 rw [hb, e.mpr f]
theorem Fits_ref8_f {h : Hierarchy} (f : ¬ FitsP h) : Fits_ref8 h = some false := by
 obtain ⟨b, hb, e⟩ := Fits_ref8_iff h
 cases b
 ·exact hb
 ·exact absurd (e.mp rfl) f
theorem Fits_threaded_t {h : Hierarchy} (f : FitsP h) : Fits_threaded h = some true := by
 obtain ⟨b, hb, e⟩ := Fits_threaded_iff f.snd.wf.raw
 rw [hb, e.mpr f]
def admitN (t : Tree) (g : Int) : Int :=
 if !hasN t g then 4 else if typeN t g == 3 then 10 else if (g != 1) && (kand .i64 (nodeN t g).control 6 != 0) then 6 else 0
theorem Admits_ref8_t {h : Hierarchy} (f : FitsP h) (g : Int) : Admits_ref8 h g = some (admitN h.tree g) := by
 have w := f.snd.wf
 unfold Admits_ref8 admitN
 rw [Fits_ref8_t f, Option.bind_some, find5 w.tree, Option.bind_some, Type_ref8_t w.tree]
 cases hasN h.tree g with
 | false => rfl
 | true =>
  simp only [Bool.not_true, Bool.false_eq_true, if_false, Option.bind_some]
  cases (typeN h.tree g == 3)
  ·simp only [Bool.false_eq_true, if_false]
   cases (g != 1 && kand .i64 (nodeN h.tree g).control 6 != 0) <;> rfl
  ·rfl
end Go.Dm

/- Plain theory, part 25: forks that are counted. -/
namespace Go.Dm
def groupK (h : Hierarchy) (k : Int) : Int := ((getK h.tasks k).getD zK).group
theorem placeK_all {h : Hierarchy} {k g : Int} (hk : (getK h.tasks k).isSome = true) (hg : hasN h.tree g = true) : placeK h k g = ({ tree := h.tree, tasks := h.tasks.map (putK k g), next := h.next }, 0) := by
 unfold placeK
 rw [hk, hg]
 rfl
end Go.Dm

/- Plain theory, part 30: what keeps Fits; all made hierarchies fit. -/
namespace Go.Dm
theorem tasks_nil {h : Hierarchy} {g : Int} : tasksK h g = [] ↔ ∀ x ∈ h.tasks, x.group ≠ g := by
 unfold tasksK
 rw [List.map_eq_nil_iff, List.filter_eq_nil_iff]
 constructor
 ·intro hh x hx e
  exact hh x hx (by simpa using e)
 ·intro hh x hx e
  exact hh x hx (by simpa using e)
theorem admit_zero {t : Tree} {g : Int} (h : admitN t g = 0) : hasN t g = true ∧ typeN t g ≠ 3 ∧ (g ≠ 1 → kand .i64 (nodeN t g).control 6 = 0) := by
 unfold admitN at h
 split at h
 ·simp at h
 split at h
 ·simp at h
 split at h
 ·simp at h
 rename_i h1 h2 h3
 refine ⟨by simpa using h1, by simpa using h2, fun e => ?_⟩
 simp only [Bool.and_eq_true, bne_iff_ne, not_and, Decidable.not_not] at h3
 exact h3 e
theorem fits_tasks {h h' : Hierarchy} (f : FitsP h) (w' : WfH h') (ht : h'.tree = h.tree) (hg : ∀ x ∈ h'.tasks, (∃ y ∈ h.tasks, y.group = x.group) ∨ admitN h.tree x.group = 0)
  (hd : ∀ x ∈ h'.tasks, domN h.tree x.group = domN h.tree (ldrK h' x).group) : FitsP h' := by
 have w := f.snd.wf
 have hk : ∀ x ∈ h.tree.nodes, (typeN h.tree x.id = 3 ∨ (x.id ≠ 1 ∧ kand .i64 x.control 6 ≠ 0)) → tasksK h x.id = [] → tasksK h' x.id = [] := by
  intro x hx hc h0
  rw [tasks_nil] at h0 ⊢
  intro y hy e
  rcases hg y hy with ⟨z, hz, ez⟩ | ha
  ·exact h0 z hz (by omega)
  ·rw [e] at ha
   obtain ⟨_, a2, a3⟩ := admit_zero ha
   rw [nodeN_of w.tree hx] at a3
   rcases hc with hc | ⟨c1, c2⟩
   ·exact a2 hc
   ·exact c2 (a3 c1)
 refine ⟨⟨w', fun x hx => ?_⟩, fun x hx => ?_, fun x hx => ?_⟩
 ·rw [ht] at hx
  have s := f.snd.snd x hx
  exact ⟨by rw [ht]; exact s.av, fun h1 h2 => hk x hx (.inr ⟨h1, h2⟩) (s.busy h1 h2)⟩
 ·rw [ht]
  exact hd x hx
 ·rw [ht] at hx
  have n := f.nod x hx
  refine ⟨fun h3 => ?_, fun h1 => ?_⟩
  ·rw [ht] at h3
   exact ⟨(n.inv h3).1, hk x hx (.inl h3) (n.inv h3).2⟩
  ·rw [ht]
   exact n.thr h1
theorem ldr_some {h : Hierarchy} (w : WfH h) {x : Task} (hx : x ∈ h.tasks) : getK h.tasks x.process = some (ldrK h x) ∧ ldrK h x ∈ h.tasks ∧ (ldrK h x).id = x.process ∧ (ldrK h x).process = x.process := by
 obtain ⟨p, q1, q2, _⟩ := (w.val x hx).ldr
 have e : ldrK h x = p := by
  unfold ldrK
  rw [q1]
  rfl
 rw [e]
 exact ⟨q1, (getK_some q1).1, (getK_some q1).2, q2⟩
theorem addK_shape {h : Hierarchy} {x : Task} {r : Hierarchy × Int × Int} (e : addK h x = r) (hr : r.2.2 = 0) :
  r = ({ tree := h.tree, tasks := h.tasks ++ [{ id := h.next, process := if x.process == 0 then h.next else x.process, group := x.group, user := x.user }], next := h.next + 1 }, h.next, 0) := by
 unfold addK at e
 split at e
 ·subst e; simp at hr
 ·exact e.symm
theorem spawnK_shape {h : Hierarchy} {g u : Int} {r : Hierarchy × Int × Int} (e : spawnK h g u = r) (hr : r.2.2 = 0) :
  r = ({ tree := h.tree, tasks := h.tasks ++ [{ id := h.next, process := h.next, group := g, user := u }], next := h.next + 1 }, h.next, 0) := by
 unfold spawnK at e
 split at e
 ·subst e; simp at hr
 split at e
 ·subst e; simp at hr
 exact addK_shape e hr
theorem ldr_add {h h' : Hierarchy} (w : WfH h) {y : Task} (hk : h'.tasks = h.tasks ++ [y]) {x : Task} (hx : x ∈ h.tasks) : ldrK h' x = ldrK h x := by
 have := (ldr_some w hx).1
 unfold ldrK at this ⊢
 rw [hk, getK_append, this]
 simp
theorem spawn_fits {h : Hierarchy} (f : FitsP h) {g u : Int} (ha : admitN h.tree g = 0) {r : Hierarchy × Int × Int} (e : spawnK h g u = r) (hr : r.2.2 = 0) : FitsP r.1 := by
 have w := f.snd.wf
 have w' := spawnK_wf w e hr
 have s := spawnK_shape e hr
 have ht : r.1.tree = h.tree := by rw [s]
 have hk : r.1.tasks = h.tasks ++ [{ id := h.next, process := h.next, group := g, user := u }] := by rw [s]
 refine fits_tasks f w' ht (fun x hx => ?_) fun x hx => ?_
 ·rw [hk] at hx
  rcases List.mem_append.mp hx with hx | hx
  ·exact .inl ⟨x, hx, rfl⟩
  ·obtain rfl : x = { id := h.next, process := h.next, group := g, user := u } := by simpa using hx
   exact .inr ha
 ·rw [hk] at hx
  rcases List.mem_append.mp hx with hx | hx
  ·rw [ldr_add w hk hx]
   exact f.dom x hx
  ·obtain rfl : x = { id := h.next, process := h.next, group := g, user := u } := by simpa using hx
   have : ldrK r.1 { id := h.next, process := h.next, group := g, user := u } = { id := h.next, process := h.next, group := g, user := u } := by
    unfold ldrK
    rw [hk, getK_append]
    have h0 : getK h.tasks h.next = none := by
     unfold getK
     rw [List.find?_eq_none]
     intro z hz
     have := w.lt z hz
     simp
     omega
    simp only [h0, Option.none_or]
    simp [getK]
   rw [this]
theorem clone_fits {h : Hierarchy} (f : FitsP h) {k : Int} {r : Hierarchy × Int × Int} (e : cloneK h k = r) (hr : r.2.2 = 0) : FitsP r.1 := by
 have w := f.snd.wf
 have w' := cloneK_wf w e hr
 unfold cloneK at e
 cases hk0 : getK h.tasks k with
 | none => rw [hk0] at e; subst e; simp at hr
 | some y =>
  rw [hk0] at e
  have hy := (getK_some hk0).1
  have s := addK_shape e hr
  obtain ⟨l1, l2, l3, l4⟩ := ldr_some w hy
  have hp0 : (y.process == 0) = false := by
   have := (w.val _ l2).pos
   simp
   omega
  rw [hp0] at s
  simp only [Bool.false_eq_true, if_false] at s
  have ht : r.1.tree = h.tree := by rw [s]
  have hk : r.1.tasks = h.tasks ++ [{ id := h.next, process := y.process, group := y.group, user := y.user }] := by rw [s]
  refine fits_tasks f w' ht (fun x hx => ?_) fun x hx => ?_
  ·rw [hk] at hx
   rcases List.mem_append.mp hx with hx | hx
   ·exact .inl ⟨x, hx, rfl⟩
   ·obtain rfl : x = { id := h.next, process := y.process, group := y.group, user := y.user } := by simpa using hx
    exact .inl ⟨y, hy, rfl⟩
  ·rw [hk] at hx
   rcases List.mem_append.mp hx with hx | hx
   ·rw [ldr_add w hk hx]
    exact f.dom x hx
   ·obtain rfl : x = { id := h.next, process := y.process, group := y.group, user := y.user } := by simpa using hx
    have : ldrK r.1 { id := h.next, process := y.process, group := y.group, user := y.user } = ldrK r.1 y := rfl
    rw [this, ldr_add w hk hy]
    exact f.dom y hy
theorem exit_fits {h : Hierarchy} (f : FitsP h) {k : Int} {r : Hierarchy × Int} (e : exitK h k = r) (hr : r.2 = 0) : FitsP r.1 := by
 have w := f.snd.wf
 have w' := exitK_wf w e hr
 unfold exitK at e
 cases hk0 : getK h.tasks k with
 | none => rw [hk0] at e; subst e; simp at hr
 | some y =>
  rw [hk0] at e
  have ht : r.1.tree = h.tree := by rw [← e]; rfl
  have hk : r.1.tasks = h.tasks.filter (fun x => x.id != k && x.process != k) := by rw [← e]; rfl
  have hsub : ∀ x ∈ r.1.tasks, x ∈ h.tasks := fun x hx => by
   rw [hk] at hx
   exact (List.mem_filter.mp hx).1
  refine fits_tasks f w' ht (fun x hx => .inl ⟨x, hsub x hx, rfl⟩) fun x hx => ?_
  have a := ldr_some w' hx
  have b := ldr_some w (hsub x hx)
  have : ldrK r.1 x = ldrK h x := sortedK_inj w.sorted (hsub _ a.2.1) b.2.1 (by rw [a.2.2.1, b.2.2.1])
  rw [this]
  exact f.dom x (hsub x hx)
def attTK (h : Hierarchy) (k g : Int) : Hierarchy × Int :=
 if !((getK h.tasks k).isSome && hasN h.tree g) then (zH, 4) else if admitN h.tree g != 0 then (zH, admitN h.tree g) else if domN h.tree g != domN h.tree (groupK h k) then (zH, 9)
 else ({ tree := h.tree, tasks := h.tasks.map (putK k g), next := h.next }, 0)
theorem AttachThread_ref8_t {h : Hierarchy} (f : FitsP h) (k g : Int) : AttachThread_ref8 h k g = some (attTK h k g) := by
 have w := f.snd.wf
 unfold AttachThread_ref8 attTK
 rw [Fits_ref8_t f, Option.bind_some, if_neg (by simp), find6 w, Option.bind_some]
 cases hk : (getK h.tasks k).isSome with
 | false => rfl
 | true =>
  simp only [Bool.not_true, Bool.false_eq_true, if_false, Bool.true_and]
  rw [Has_ref5_t w.tree, Option.bind_some]
  cases hg : hasN h.tree g with
  | false => rfl
  | true =>
   unfold AttachThread_ref8J1
   simp only [Bool.not_true, Bool.false_eq_true, if_false]
   rw [Admits_ref8_t f, Option.bind_some]
   cases ha : (admitN h.tree g != 0) with
   | true => rfl
   | false =>
    simp only [Bool.false_eq_true, if_false]
    rw [Domain_ref8_t w.tree, Option.bind_some, Domain_ref8_t w.tree, Option.bind_some]
    show (if (domN h.tree g != domN h.tree (groupK h k)) = true then _ else _) = _
    cases hd : (domN h.tree g != domN h.tree (groupK h k)) with
    | true => rfl
    | false =>
     simp only [Bool.false_eq_true, if_false]
     rw [Place_ref6_t w, Option.bind_some, placeK_all hk hg]
theorem attTK_ok {h : Hierarchy} {k g : Int} (e : (attTK h k g).2 = 0) : (getK h.tasks k).isSome = true ∧ hasN h.tree g = true ∧ admitN h.tree g = 0 ∧ domN h.tree g = domN h.tree (groupK h k) ∧ attTK h k g = ({ tree := h.tree, tasks := h.tasks.map (putK k g), next := h.next }, 0) := by
 unfold attTK at e ⊢
 split at e
 ·simp at e
 split at e
 ·rename_i h2
  simp at e h2
  exact absurd e h2
 split at e
 ·simp at e
 rename_i h1 h2 h3
 simp only [Bool.not_eq_true', Bool.and_eq_false_iff, not_or, Bool.not_eq_false] at h1
 simp only [bne_iff_ne, Decidable.not_not] at h2 h3
 refine ⟨h1.1, h1.2, h2, h3, ?_⟩
 rw [h1.1, h1.2, h2, h3]
 simp
theorem ldr_map {h : Hierarchy} {fn : Task → Task} (hf : ∀ y, (fn y).id = y.id ∧ (fn y).process = y.process) (hz : ∀ y ∈ h.tasks, (getK h.tasks y.process).isSome = true) {y : Task} (hy : y ∈ h.tasks) {h' : Hierarchy} (hk : h'.tasks = h.tasks.map fn) : ldrK h' (fn y) = fn (ldrK h y) := by
 unfold ldrK
 rw [hk, (hf y).2, getK_map fun z _ => (hf z).1]
 cases e : getK h.tasks y.process with
 | none =>
  have := hz y hy
  rw [e] at this
  simp at this
 | some p => rfl
theorem attTK_fits {h : Hierarchy} (f : FitsP h) {k g : Int} (e : (attTK h k g).2 = 0) : FitsP (attTK h k g).1 := by
 have w := f.snd.wf
 obtain ⟨h1, h2, h3, h4, h5⟩ := attTK_ok e
 have hp := placeK_all h1 h2
 have w' := placeK_wf w hp rfl
 rw [h5]
 have hdom : ∀ y ∈ h.tasks, domN h.tree (putK k g y).group = domN h.tree y.group := by
  intro y hy
  unfold putK
  split
  ·rename_i ey
   have ey : y.id = k := by simpa using ey
   rw [h4]
   unfold groupK
   rw [← ey, getK_of w.sorted hy]
   rfl
  ·rfl
 refine fits_tasks f w' rfl (fun x hx => ?_) fun x hx => ?_
 ·obtain ⟨y, hy, rfl⟩ := List.mem_map.mp hx
  unfold putK
  split
  ·exact .inr h3
  ·exact .inl ⟨y, hy, rfl⟩
 ·obtain ⟨y, hy, rfl⟩ := List.mem_map.mp hx
  have hl := ldr_some w hy
  rw [ldr_map (h := h) (fun z => ⟨(putK_id k g z).1, (putK_id k g z).2.1⟩) (fun z hz => by rw [(ldr_some w hz).1]; rfl) hy rfl, hdom y hy, hdom _ hl.2.1]
  exact f.dom y hy
section
variable {t t' : Tree} {fn : Node → Node}
theorem getN_map (hn : t'.nodes = t.nodes.map fn) (hf : ∀ y ∈ t.nodes, (fn y).id = y.id) (a : Int) : getN t' a = (getN t a).map fn := by
 unfold getN
 rw [hn]
 have : ∀ L : List Node, (∀ y ∈ L, (fn y).id = y.id) → (L.map fn).find? (fun x => x.id == a) = (L.find? (fun x => x.id == a)).map fn := by
  intro L
  induction L with
  | nil => intro _; rfl
  | cons b r ih =>
   intro hL
   rw [List.map_cons, List.find?_cons, List.find?_cons, hL b (by simp)]
   cases (b.id == a)
   ·exact ih fun y hy => hL y (by simp [hy])
   ·rfl
 exact this _ hf
structure Alike (t t' : Tree) (fn : Node → Node) : Prop where
 nodes : t'.nodes = t.nodes.map fn
 id : ∀ y ∈ t.nodes, (fn y).id = y.id
 par : ∀ y ∈ t.nodes, (fn y).parent = y.parent
 con : ∀ y ∈ t.nodes, (fn y).control = y.control
 kind : ∀ y ∈ t.nodes, (fn y).kind = y.kind
theorem Alike.has (h : Alike t t' fn) (a : Int) : hasN t' a = hasN t a := by
 unfold hasN
 rw [getN_map h.nodes h.id]
 simp
theorem Alike.node (h : Alike t t' fn) (a : Int) : (nodeN t' a).control = (nodeN t a).control ∧ (nodeN t' a).kind = (nodeN t a).kind ∧ (nodeN t' a).parent = (nodeN t a).parent := by
 unfold nodeN
 rw [getN_map h.nodes h.id]
 cases e : getN t a with
 | none => exact ⟨rfl, rfl, rfl⟩
 | some y =>
  have hy := (getN_some e).1
  exact ⟨h.con y hy, h.kind y hy, h.par y hy⟩
theorem Alike.thr (h : Alike t t' fn) : thrN t' = thrN t := by
 funext a
 unfold thrN
 rw [(h.node a).2.1]
theorem Alike.up (h : Alike t t' fn) (a : Int) : upT t' a = upT t a := by
 unfold upT
 rw [h.nodes, ← List.map_reverse]
 exact upR_map fun y hy => ⟨h.id y (by simpa using hy), h.par y (by simpa using hy)⟩
theorem Alike.kids (h : Alike t t' fn) (a : Int) : kidsN t' a = kidsN t a := by
 unfold kidsN
 rw [h.nodes, List.filter_map, List.map_map]
 have e1 : t.nodes.filter ((fun x => x.parent == a) ∘ fn) = t.nodes.filter (fun x => x.parent == a) := List.filter_congr fun y hy => by simp [h.par y hy]
 rw [e1]
 exact List.map_congr_left fun y hy => h.id y (List.mem_filter.mp hy).1
theorem Alike.dom (h : Alike t t' fn) (a : Int) : domN t' a = domN t a := by
 unfold domN
 rw [h.up, h.thr]
theorem Alike.inv (h : Alike t t' fn) (a : Int) : invN t' a = invN t a := by
 unfold invN
 rw [h.up, h.thr]
theorem Alike.type (h : Alike t t' fn) (a : Int) : typeN t' a = typeN t a := by
 unfold typeN
 rw [h.has, h.inv, h.kids, h.thr]
theorem fits_alike {h h' : Hierarchy} (f : FitsP h) (w' : WfH h') (a : Alike h.tree h'.tree fn) (ht : h'.tasks = h.tasks) : FitsP h' := by
 have hk : ∀ g, tasksK h' g = tasksK h g := fun g => by
  unfold tasksK
  rw [ht]
 have hl : ∀ x, ldrK h' x = ldrK h x := fun x => by
  unfold ldrK
  rw [ht]
 refine ⟨⟨w', fun x hx => ?_⟩, fun x hx => ?_, fun x hx => ?_⟩
 ·rw [a.nodes] at hx
  obtain ⟨y, hy, rfl⟩ := List.mem_map.mp hx
  have s := f.snd.snd y hy
  have e1 : availN h'.tree (fn y) = availN h.tree y := by
   unfold availN topN
   rw [a.kind y hy, a.id y hy, a.par y hy, (a.node y.parent).1]
  refine ⟨?_, fun h1 h2 => ?_⟩
  ·rw [e1, a.con y hy]
   exact s.av
  ·rw [hk, a.id y hy]
   rw [a.id y hy] at h1
   rw [a.con y hy] at h2
   exact s.busy h1 h2
 ·rw [ht] at hx
  rw [a.dom, a.dom, hl]
  exact f.dom x hx
 ·rw [a.nodes] at hx
  obtain ⟨y, hy, rfl⟩ := List.mem_map.mp hx
  have n := f.nod y hy
  refine ⟨fun h3 => ?_, fun h1 => ?_⟩
  ·rw [a.id y hy, a.type] at h3
   rw [a.con y hy, a.id y hy, hk]
   exact n.inv h3
  ·rw [a.kind y hy] at h1
   rw [a.par y hy, a.type, (a.node y.parent).1]
   exact n.thr h1
end
theorem own_fits {h : Hierarchy} (f : FitsP h) {x : Node} (hx : x ∈ h.tree.nodes) {u : Int} (u0 : 0 ≤ u) (u1 : u ≤ 1048576) : FitsP (withN h (ownN x u)) := by
 have w := f.snd.wf
 have hs : ∀ y ∈ h.tree.nodes, setN (ownN x u) y = if y.id == x.id then ownN y u else y := fun y hy => by
  unfold setN
  have : (ownN x u).id = x.id := rfl
  rw [this]
  split
  ·rename_i e
   rw [sorted_inj w.tree.sorted hy hx (by simpa using e)]
  ·rfl
 refine fits_alike (fn := setN (ownN x u)) f (withN_own_wf w hx u0 u1) ⟨rfl, ?_, ?_, ?_, ?_⟩ rfl
 all_goals
  intro y hy
  rw [hs y hy]
  split <;> rfl
section
variable {t t' : Tree} {p : Int} {s : ByteArray}
structure Grown (t t' : Tree) (p : Int) (s : ByteArray) : Prop where
 nodes : t'.nodes = t.nodes ++ [{ id := t.next, parent := p, name := s, control := 0, kind := 0, owner := 0 }]
 next : t'.next = t.next + 1
 par : hasN t p = true
 wf : WfT t
 wf' : WfT t'
 room : (upT t p).length < 9
 fresh : ∀ x ∈ t.nodes, x.parent = p → beqS x.name s = false
theorem addT_grown (w : WfT t) {r : Tree × Int × Int} (e : addT t p s = r) (hr : r.2.2 = 0) : Grown t r.1 p s ∧ r.2.1 = t.next := by
 have wf' := addT_wf w e hr
 unfold addT at e
 split at e
 ·subst e; simp at hr
 split at e
 ·subst e; simp at hr
 split at e
 ·subst e; simp at hr
 split at e
 ·subst e; simp at hr
 rename_i h1 h2 h3 h4
 subst e
 simp only [Bool.or_eq_true, decide_eq_true_eq, not_or] at h4
 refine ⟨⟨rfl, rfl, by simpa using h2, w, wf', by omega, fun x hx e => ?_⟩, rfl⟩
 cases hb : beqS x.name s
 ·rfl
 ·exact absurd (List.any_eq_true.mpr ⟨x, hx, by simp [e, hb]⟩) h3
theorem Grown.lt (g : Grown t t' p s) : ∀ x ∈ t.nodes, x.id < t.next := g.wf.next
theorem Grown.get (g : Grown t t' p s) {a : Int} (h : a ≠ t.next) : getN t' a = getN t a := by
 unfold getN
 rw [g.nodes, List.find?_append]
 have : ([{ id := t.next, parent := p, name := s, control := 0, kind := 0, owner := 0 }] : List Node).find? (fun x => x.id == a) = none := by
  simp
  omega
 rw [this, Option.or_none]
theorem Grown.getNone (g : Grown t t' p s) : getN t t.next = none := by
 unfold getN
 rw [List.find?_eq_none]
 intro x hx
 have := g.lt x hx
 simp
 omega
theorem Grown.getNew (g : Grown t t' p s) : getN t' t.next = some { id := t.next, parent := p, name := s, control := 0, kind := 0, owner := 0 } := by
 have := g.getNone
 unfold getN at this ⊢
 rw [g.nodes, List.find?_append, this]
 simp
theorem Grown.has (g : Grown t t' p s) {a : Int} (h : a ≠ t.next) : hasN t' a = hasN t a := by
 unfold hasN
 rw [g.get h]
theorem Grown.node (g : Grown t t' p s) (a : Int) : (nodeN t' a).control = (nodeN t a).control ∧ (nodeN t' a).kind = (nodeN t a).kind := by
 unfold nodeN
 by_cases h : a = t.next
 ·subst h
  rw [g.getNew, g.getNone]
  exact ⟨rfl, rfl⟩
 ·rw [g.get h]
  exact ⟨rfl, rfl⟩
theorem Grown.thr (g : Grown t t' p s) : thrN t' = thrN t := by
 funext a
 unfold thrN
 rw [(g.node a).2]
theorem Grown.up (g : Grown t t' p s) {a : Int} (h : a ≠ t.next) : upT t' a = upT t a := by
 unfold upT
 rw [g.nodes]
 exact upT_snoc_old (fun e => h e.symm)
theorem Grown.dom (g : Grown t t' p s) {a : Int} (h : a ≠ t.next) : domN t' a = domN t a := by
 unfold domN
 rw [g.up h, g.thr]
theorem Grown.thrNew (g : Grown t t' p s) : thrN t t.next = false := by
 unfold thrN nodeN
 rw [g.getNone]
 rfl
theorem Grown.type (g : Grown t t' p s) {a : Int} (h : a ≠ t.next) : typeN t' a = typeN t a := by
 have hk : (kidsN t' a).any (thrN t) = (kidsN t a).any (thrN t) := by
  unfold kidsN
  rw [g.nodes, List.filter_append, List.map_append, List.any_append]
  have : ((([{ id := t.next, parent := p, name := s, control := 0, kind := 0, owner := 0 }] : List Node).filter (fun x => x.parent == a)).map (·.id)).any (thrN t) = false := by
   rw [List.filter_cons]
   split
   ·simp [g.thrNew]
   ·simp
  rw [this, Bool.or_false]
 unfold typeN invN
 rw [g.has h, g.up h, g.thr, hk]
theorem create_fits {h : Hierarchy} (f : FitsP h) {tr : Tree} (g : Grown h.tree tr p s) : FitsP { tree := tr, tasks := h.tasks, next := h.next } := by
 have w := f.snd.wf
 have hne : ∀ x ∈ h.tasks, x.group ≠ h.tree.next := fun x hx e => by
  obtain ⟨n, hn, en⟩ := hasN_iff.mp (w.val x hx).grp
  have := g.lt n hn
  omega
 have w' : WfH { tree := tr, tasks := h.tasks, next := h.next } := by
  refine ⟨g.wf', w.len, w.n1, w.n2, w.sorted, w.lt, fun x hx => ?_⟩
  have v := w.val x hx
  refine ⟨v.pos, ?_, v.u1, v.u2, v.ldr⟩
  show hasN tr x.group = true
  rw [g.has (hne x hx)]
  exact v.grp
 have hk : ∀ a, tasksK { tree := tr, tasks := h.tasks, next := h.next } a = tasksK h a := fun _ => rfl
 have hpar : ∀ y ∈ h.tree.nodes, y.parent ≠ h.tree.next := fun y hy => by
  have := w.tree.par_lt hy
  have := g.lt y hy
  omega
 refine ⟨⟨w', fun x hx => ?_⟩, fun x hx => ?_, fun x hx => ?_⟩
 ·have hx' : x ∈ tr.nodes := hx
  rw [g.nodes] at hx'
  rcases List.mem_append.mp hx' with hx' | hx'
  ·have sn := f.snd.snd x hx'
   have e1 : availN tr x = availN h.tree x := by
    unfold availN topN
    rw [(g.node x.parent).1]
   exact ⟨by show kandNot .i64 x.control (availN tr x) = 0; rw [e1]; exact sn.av, sn.busy⟩
  ·obtain rfl : x = { id := h.tree.next, parent := p, name := s, control := 0, kind := 0, owner := 0 } := by simpa using hx'
   refine ⟨?_, fun _ h2 => ?_⟩
   ·have : ∀ c : Int, kandNot .i64 0 c = 0 := fun c => by simp [kandNot]; rfl
    exact this _
   ·exact absurd (by decide : kand .i64 0 6 = 0) h2
 ·have hx' : x ∈ h.tasks := hx
  have hl := ldr_some w hx'
  show domN tr x.group = domN tr (ldrK h x).group
  rw [g.dom (hne x hx'), g.dom (hne _ hl.2.1)]
  exact f.dom x hx'
 ·have hx' : x ∈ tr.nodes := hx
  rw [g.nodes] at hx'
  rcases List.mem_append.mp hx' with hx' | hx'
  ·have n := f.nod x hx'
   have hid : x.id ≠ h.tree.next := by
    have := g.lt x hx'
    omega
   refine ⟨fun h3 => ?_, fun h1 => ?_⟩
   ·have h3' : typeN tr x.id = 3 := h3
    rw [g.type hid] at h3'
    exact n.inv h3'
   ·show (x.parent ≠ 1 → kand .i64 (nodeN tr x.parent).control 6 = 0) ∧ typeN tr x.parent ≠ 3
    rw [(g.node x.parent).1, g.type (hpar x hx')]
    exact n.thr h1
  ·obtain rfl : x = { id := h.tree.next, parent := p, name := s, control := 0, kind := 0, owner := 0 } := by simpa using hx'
   refine ⟨fun _ => ⟨rfl, ?_⟩, fun h1 => ?_⟩
   ·rw [hk, tasks_nil]
    exact hne
   ·simp at h1
end
theorem Enable_ref8_fits (h : Hierarchy) (id a d : Int) : Ok (Enable_ref8 h id a d) (fun r => r.2 = 0 → FitsP r.1) := by
 unfold Enable_ref8
 have bad : ∀ (x : Hierarchy) (n : Int), n ≠ 0 → Ok (some (x, n)) (fun r : Hierarchy × Int => r.2 = 0 → FitsP r.1) := fun x n hn => Ok.ret fun e => absurd e hn
 refine Ok.bind (Fits_ref8_iff h) fun _ _ => Ok.ite (fun _ => bad _ _ (by decide)) fun _ => ?_
 refine Ok.bind (Write_ref7_tot _ _ _ _) fun r _ => Ok.ite (fun c => bad _ _ (by simpa using c)) fun _ => ?_
 refine Ok.bind (Fits_ref8_iff r.1) fun b hb => Ok.ite (fun _ => bad _ _ (by decide)) fun c => ?_
 exact Ok.ret fun _ => hb.mp (by simpa using c)
theorem Convert_ref8_fits (h : Hierarchy) (id : Int) : Ok (Convert_ref8 h id) (fun r => r.2 = 0 → FitsP r.1) := by
 unfold Convert_ref8
 have bad : ∀ (x : Hierarchy) (n : Int), n ≠ 0 → Ok (some (x, n)) (fun r : Hierarchy × Int => r.2 = 0 → FitsP r.1) := fun x n hn => Ok.ret fun e => absurd e hn
 refine Ok.bind (Fits_ref8_ok h) fun b hb => Ok.ite (fun _ => bad _ _ (by decide)) fun c => ?_
 have w : WfH h := hb (by simpa using c)
 have := w.len
 have := w.tree.len2
 have hJ : ∀ r b, Ok (Convert_ref8J1 h id r b) (fun r => r.2 = 0 → FitsP r.1) := fun r b => by
  unfold Convert_ref8J1
  refine Ok.ite (fun _ => bad _ _ (by decide)) fun _ => Ok.ite (fun _ => bad _ _ (by decide)) fun _ => ?_
  refine Ok.step (Copy_ref6_eq h (by omega) (by omega)) (Ok.step (Set_ref5_eq h.tree _ (by omega)) ?_)
  refine Ok.bind (Tasks_ref6_tot _ _) fun _ _ => ?_
  unfold Convert_ref8J2
  refine Ok.ite (fun _ => bad _ _ (by decide)) fun _ => ?_
  refine Ok.bind (Fits_ref8_iff _) fun b hb => Ok.ite (fun _ => bad _ _ (by decide)) fun c => ?_
  exact Ok.ret fun _ => hb.mp (by simpa using c)
 refine Ok.bind (Find_ref5_tot _ _) fun _ _ => Ok.ite (fun _ => bad _ _ (by decide)) fun _ => Ok.ite (fun _ => bad _ _ (by decide)) fun _ => ?_
 refine Ok.bind (Find_ref5_tot _ _) fun _ _ => Ok.bind (Type_ref8_tot _ _) fun _ _ => Ok.ite (fun _ => hJ _ _) fun _ => Ok.ite (fun _ => hJ _ _) fun _ => hJ _ _
theorem fits_inv (n m : Int) : HInv n m (fun _ h => FitsP h) (fun _ h => FitsP h) := by
 refine ⟨?_, ?_, ?_, ?_, ?_, ?_, ?_, ?_, ?_, ?_⟩
 ·intro h g a r c w s e hr
  exact ok_at (Enable_ref8_fits h g a 0) e hr
 ·intro h g r c w s e hr
  exact ok_at (Convert_ref8_fits h g) e hr
 ·intro h x u c w s hx _ u0 u1
  exact own_fits s hx u0 (by omega)
 ·intro c h w c0 s
  exact s
 ·intro c h g u r w c0 s ha _ _ e hr
  rw [Admits_ref8_t s] at ha
  exact spawn_fits s (Option.some.inj ha) e hr
 ·intro c h w c0 s
  exact s
 ·intro c h w c0 s
  exact s
 ·intro c h k r w c0 s e hr
  exact clone_fits s e hr
 ·intro c h k g r w c0 s e hr
  rw [AttachThread_ref8_t s] at e
  have e := Option.some.inj e
  rw [← e] at hr ⊢
  exact attTK_fits s hr
 ·intro c h k r w c0 s e hr
  exact exit_fits s e hr
theorem plain_fits {t : Tree} (w : WfT t) (h : ∀ x ∈ t.nodes, x.control = 0 ∧ x.kind = 0) : FitsP { tree := t, tasks := [], next := 1 } := by
 have w' : WfH { tree := t, tasks := [], next := 1 } := ⟨w, by simp, by simp, by simp, by simp, by simp, by simp⟩
 refine ⟨⟨w', fun x hx => ?_⟩, fun x hx => ?_, fun x hx => ?_⟩
 ·have hc := (h x hx).1
  refine ⟨?_, fun _ _ => rfl⟩
  rw [hc]
  simp [kandNot]
  rfl
 ·simp at hx
 ·refine ⟨fun _ => ⟨(h x hx).1, rfl⟩, fun h1 => ?_⟩
  rw [(h x hx).2] at h1
  simp at h1
end Go.Dm

/- Models of Go types and functions, printed by a program. -/
namespace Go.Dm
set_option linter.unusedVariables false
structure Protection where
 group : Int
 min : Int
 low : Int
 deriving Inhabited
structure Charge where
 group : Int
 own : Int
 deriving Inhabited
structure Counter where
 charges : List Charge
 deriving Inhabited
end Go.Dm

/- Models of Go types and functions, printed by a program. -/
namespace Go.Dm
set_option linter.unusedVariables false
def AddFa_tree (p0 : Int) : Option (Tree × Int × Int) := (some (({ nodes := [], next := 0 } : Tree), 0, p0))
def child_treeL1 (p1 : Int) (p2 : ByteArray) (k1 : Nat) (x1 : Node) (s1 : Unit) (n1 : Unit → Option Int) : Option Int := (if ((x1.parent == p1) && (beqS x1.name p2)) then (some x1.id) else (n1 ()))
def child_treeD1 (s1 : Unit) : Option Int := (some 0)
def child_tree (p0 : Tree) (p1 : Int) (p2 : ByteArray) : Option Int := (if p0.nodes.length ≤ 1073741824 then rangeL (child_treeL1 p1 p2) child_treeD1 p0.nodes 0 () else none)
def checked_tree (p0 : Tree) : Option Tree := (Option.bind (Check_tree p0) fun r1 => (if (!r1) then (some ({ nodes := [], next := 0 } : Tree)) else (some p0)))
def Ancestors_tree (p0 : Tree) (p1 : Int) : Option (List Int) := (Option.bind (checked_tree p0) fun r1 => (Option.bind (Ancestors_forest r1 p1) fun r2 => (some r2)))
def Depth_tree (p0 : Tree) (p1 : Int) : Option Int := (Option.bind (Ancestors_tree p0 p1) fun r1 => (some (w64 (((r1.length : Nat) : Int) - 1))))
def Add_treeJ2 (p0 : Tree) (p1 : Int) (p2 : ByteArray) (y2 : Bool) : Option (Tree × Int × Int) := (if y2 then (Option.bind (AddFa_tree 7) fun r16 => (some (r16.1, r16.2.1, r16.2.2))) else (Option.bind (copied_tree p0) fun r17 => (if r17.nodes.length + 1 ≤ 1073741824 then (some (({ nodes := (r17.nodes ++ [({ id := p0.next, parent := p1, name := p2, control := 0, kind := 0, owner := 0 } : Node)]), next := (w64 (r17.next + 1)) } : Tree), p0.next, 0)) else none)))
def Add_treeJ1 (p0 : Tree) (p1 : Int) (p2 : ByteArray) (y1 : Bool) : Option (Tree × Int × Int) := (if y1 then (Option.bind (AddFa_tree 1) fun r5 => (some (r5.1, r5.2.1, r5.2.2))) else (Option.bind (At_forest p0 p1) fun r6 => (if (decide (r6 < 0)) then (Option.bind (AddFa_tree 4) fun r8 => (some (r8.1, r8.2.1, r8.2.2))) else (Option.bind (child_tree p0 p1 p2) fun r9 => (if (r9 != 0) then (Option.bind (AddFa_tree 5) fun r11 => (some (r11.1, r11.2.1, r11.2.2))) else (Option.bind (Depth_tree p0 p1) fun r12 => (if (decide (r12 ≥ 8)) then ((Add_treeJ2 p0 p1 p2) true) else (if (decide (((p0.nodes.length : Nat) : Int) ≥ 64)) then ((Add_treeJ2 p0 p1 p2) true) else ((Add_treeJ2 p0 p1 p2) (decide (p0.next > 2147483647)))))))))))
def Add_tree (p0 : Tree) (p1 : Int) (p2 : ByteArray) : Option (Tree × Int × Int) := (Option.bind (Check_tree p0) fun r1 => (if (!r1) then ((Add_treeJ1 p0 p1 p2) true) else (Option.bind (Valid_name p2) fun r3 => ((Add_treeJ1 p0 p1 p2) (!r3)))))
def Create_threaded (p0 : Hierarchy) (p1 : Int) (p2 : ByteArray) : Option (Hierarchy × Int × Int) := (Option.bind (Fits_threaded p0) fun r1 => (if (!r1) then (some (({ tree := ({ nodes := [], next := 0 } : Tree), tasks := [], next := 0 } : Hierarchy), 0, 1)) else (Option.bind (Add_tree p0.tree p1 p2) fun r3 => (if (r3.2.2 != 0) then (some (({ tree := ({ nodes := [], next := 0 } : Tree), tasks := [], next := 0 } : Hierarchy), 0, r3.2.2)) else (Option.bind (Copy_crew p0) fun r5 => (some (({ tree := r3.1, tasks := r5.tasks, next := r5.next } : Hierarchy), r3.2.1, 0)))))))
def refuse_threaded (p0 : Int) : Option (Hierarchy × Int) := (some (({ tree := ({ nodes := [], next := 0 } : Tree), tasks := [], next := 0 } : Hierarchy), p0))
def Find_tree (p0 : Tree) (p1 : Int) : Option (Node × Bool) := (Option.bind (checked_tree p0) fun r1 => (Option.bind (Find_forest r1 p1) fun r2 => (some (r2.1, r2.2))))
def Type_threadedL1 (p1 : Int) (k1 : Nat) (x1 : Node) (s1 : Unit) (n1 : Unit → Option Int) : Option Int := (if ((x1.parent == p1) && (x1.kind == 1)) then (some 1) else (n1 ()))
def Type_threadedD1 (s1 : Unit) : Option Int := (some 0)
def Type_threaded (p0 : Tree) (p1 : Int) : Option Int := (Option.bind (Find_tree p0 p1) fun r1 => (if (!r1.2) then (some 0) else (if (r1.1.kind == 1) then (some 2) else (Option.bind (invalid_threaded p0 p1) fun r4 => (if r4 then (some 3) else (if p0.nodes.length ≤ 1073741824 then rangeL (Type_threadedL1 p1) Type_threadedD1 p0.nodes 0 () else none))))))
def Convert_threadedJ2 (r4 : Int) (r19 : Hierarchy) (y2 : Bool) : Option (Hierarchy × Int) := (if y2 then (Option.bind (refuse_threaded 6) fun r26 => (some (r26.1, r26.2))) else (some (({ tree := ({ nodes := (r19.tree.nodes.set (Int.toNat r4) ({ id := (r19.tree.nodes.getD (Int.toNat r4) (default : Node)).id, parent := (r19.tree.nodes.getD (Int.toNat r4) (default : Node)).parent, name := (r19.tree.nodes.getD (Int.toNat r4) (default : Node)).name, control := (r19.tree.nodes.getD (Int.toNat r4) (default : Node)).control, kind := 1, owner := (r19.tree.nodes.getD (Int.toNat r4) (default : Node)).owner } : Node)), next := r19.tree.next } : Tree), tasks := r19.tasks, next := r19.next } : Hierarchy), 0)))
def Convert_threadedJ1 (p0 : Hierarchy) (p1 : Int) (r4 : Int) (y1 : Bool) : Option (Hierarchy × Int) := (if y1 then (Option.bind (refuse_threaded 10) fun r16 => (some (r16.1, r16.2))) else (if ((kand .i64 (p0.tree.nodes.getD (Int.toNat r4) (default : Node)).control 6) != 0) then (Option.bind (refuse_threaded 9) fun r18 => (some (r18.1, r18.2))) else (Option.bind (Copy_crew p0) fun r19 => (if 0 ≤ r4 ∧ r4 < ((r19.tree.nodes.length : Nat) : Int) then (if (Int.toNat r4) < r19.tree.nodes.length then (Option.bind (Tasks_crew p0 p1) fun r22 => (if (decide (((r22.length : Nat) : Int) > 0)) then ((Convert_threadedJ2 r4 r19) true) else (Option.bind (Fits_threaded ({ tree := ({ nodes := (r19.tree.nodes.set (Int.toNat r4) ({ id := (r19.tree.nodes.getD (Int.toNat r4) (default : Node)).id, parent := (r19.tree.nodes.getD (Int.toNat r4) (default : Node)).parent, name := (r19.tree.nodes.getD (Int.toNat r4) (default : Node)).name, control := (r19.tree.nodes.getD (Int.toNat r4) (default : Node)).control, kind := 1, owner := (r19.tree.nodes.getD (Int.toNat r4) (default : Node)).owner } : Node)), next := r19.tree.next } : Tree), tasks := r19.tasks, next := r19.next } : Hierarchy)) fun r24 => ((Convert_threadedJ2 r4 r19) (!r24))))) else none) else none))))
def Convert_threaded (p0 : Hierarchy) (p1 : Int) : Option (Hierarchy × Int) := (Option.bind (Fits_threaded p0) fun r1 => (if (!r1) then (Option.bind (refuse_threaded 1) fun r3 => (some (r3.1, r3.2))) else (Option.bind (At_forest p0.tree p1) fun r4 => (if (decide (r4 < 0)) then (Option.bind (refuse_threaded 4) fun r6 => (some (r6.1, r6.2))) else (if 0 ≤ r4 ∧ r4 < ((p0.tree.nodes.length : Nat) : Int) then (Option.bind (Find_forest p0.tree (p0.tree.nodes.getD (Int.toNat r4) (default : Node)).parent) fun r8 => (if ((p1 == 1) || ((p0.tree.nodes.getD (Int.toNat r4) (default : Node)).kind == 1)) then (Option.bind (refuse_threaded 9) fun r11 => (some (r11.1, r11.2))) else (Option.bind (Type_threaded p0.tree (p0.tree.nodes.getD (Int.toNat r4) (default : Node)).parent) fun r12 => (if (r12 == 3) then ((Convert_threadedJ1 p0 p1 r4) true) else (if ((p0.tree.nodes.getD (Int.toNat r4) (default : Node)).parent != 1) then ((Convert_threadedJ1 p0 p1 r4) ((kand .i64 r8.1.control 6) != 0)) else ((Convert_threadedJ1 p0 p1 r4) false)))))) else none)))))
def sane_law8J1 (y1 : Bool) : Option Bool := (some y1)
def sane_law8 : Option Bool := (Option.bind New_ref6 fun r1 => (Option.bind (Create_threaded r1 1 (bs [97])) fun r2 => (Option.bind (Create_threaded r2.1 r2.2.1 (bs [98])) fun r5 => (Option.bind (Convert_threaded r5.1 r2.2.1) fun r8 => (if (r2.2.2 == 0) then (if (r5.2.2 == 0) then (if (r8.2 == 0) then (Option.bind (Type_threaded r8.1.tree r5.2.1) fun r12 => (if (r12 == 3) then (Option.bind (Type_threaded r8.1.tree 1) fun r14 => (sane_law8J1 (r14 == 1))) else (sane_law8J1 false))) else (sane_law8J1 false)) else (sane_law8J1 false)) else (sane_law8J1 false))))))
def ThreadedCreates_law8J1 (y1 : Bool) : Option Bool := (some y1)
def ThreadedCreates_law8J3 (y3 : Bool) : Option Bool := (some y3)
def ThreadedCreates_law8J2 (r5 : Hierarchy × Dice) (r15 : Hierarchy × Int) (y2 : Bool) : Option Bool := (if y2 then (some false) else (Option.bind (Same_ref6 ({ tree := ({ nodes := r15.1.tree.nodes, next := r5.1.tree.next } : Tree), tasks := r15.1.tasks, next := r15.1.next } : Hierarchy) r5.1) fun r23 => (if r23 then (Option.bind sane_law8 fun r25 => (ThreadedCreates_law8J3 r25)) else (ThreadedCreates_law8J3 false))))
def ThreadedCreates_law8 (p0 : List Int) : Option Bool := (Option.bind (Light_made p0) fun r1 => (if (!r1) then (Option.bind sane_law8 fun r3 => (some r3)) else (Option.bind (Roll_made p0) fun r4 => (Option.bind (Hierarchy_Dice_made r4 6 6) fun r5 => (Option.bind (Next_Dice_made r5.2 ((r5.1.tree.nodes.length : Nat) : Int)) fun r6 => (if 0 ≤ r6.1 ∧ r6.1 < ((r5.1.tree.nodes.length : Nat) : Int) then (Option.bind (Create_threaded r5.1 (r5.1.tree.nodes.getD (Int.toNat r6.1) (default : Node)).id (bs [102, 114, 101, 115, 104])) fun r8 => (if (r8.2.2 != 0) then (if (r8.2.2 == 7) then (Option.bind sane_law8 fun r11 => (ThreadedCreates_law8J1 r11)) else (ThreadedCreates_law8J1 false)) else (Option.bind (Type_threaded r8.1.tree r8.2.1) fun r12 => (Option.bind (Remove_ref6 r8.1 r8.2.1) fun r15 => (if (r12 != 0) then (if (r12 != 3) then ((ThreadedCreates_law8J2 r5 r15) true) else (if (r15.2 != 0) then ((ThreadedCreates_law8J2 r5 r15) true) else (Option.bind (Fits_threaded r8.1) fun r19 => ((ThreadedCreates_law8J2 r5 r15) (!r19))))) else (if (r15.2 != 0) then ((ThreadedCreates_law8J2 r5 r15) true) else (Option.bind (Fits_threaded r8.1) fun r21 => ((ThreadedCreates_law8J2 r5 r15) (!r21))))))))) else none))))))
end Go.Dm

/- Plain theory, part 31: threaded's functions. -/
namespace Go.Dm
theorem sane_law8_t : sane_law8 = some true := by kernel_rfl
theorem Find_tree_t {t : Tree} (w : WfT t) (id : Int) : Find_tree t id = some (nodeN t id, hasN t id) := by
 unfold Find_tree checked_tree
 rw [Check_tree_t w]
 simp only [Option.bind_some, Bool.not_true, Bool.false_eq_true, if_false]
 rw [findF w]
 rfl
theorem Type_threaded_t {t : Tree} (w : WfT t) (id : Int) : Type_threaded t id = some (typeN t id) := by
 have l2 := w.len2
 unfold Type_threaded typeN
 rw [Find_tree_t w, Option.bind_some]
 cases hg : hasN t id with
 | false => rfl
 | true =>
  simp only [Bool.not_true, Bool.false_eq_true, if_false]
  show (if thrN t id = true then _ else _) = _
  cases hk : thrN t id with
  | true => rfl
  | false =>
   simp only [Bool.false_eq_true, if_false]
   rw [invalid_threaded_t w, Option.bind_some]
   cases hi : invN t id with
   | true => rfl
   | false =>
    simp only [Bool.false_eq_true, if_false]
    rw [if_pos (by omega), range_find (p := fun x : Node => (x.parent == id) && (x.kind == 1)) (f := fun _ => (1 : Int)) (z := 0) (fun k x n => rfl) rfl]
    congr 1
    cases hf : t.nodes.find? (fun x : Node => (x.parent == id) && (x.kind == 1)) with
    | none =>
     rw [List.find?_eq_none] at hf
     have : (kidsN t id).any (thrN t) = false := by
      rw [List.any_eq_false]
      intro c hc hth
      obtain ⟨x, hx, hp, rfl⟩ := kids_iff.mp hc
      unfold thrN at hth
      rw [nodeN_of w hx] at hth
      exact hf x hx (by simp [hp]; simpa using hth)
     rw [this]
     rfl
    | some x =>
     have h1 := List.find?_some hf
     have hx := List.mem_of_find?_eq_some hf
     simp only [Bool.and_eq_true, beq_iff_eq] at h1
     have : (kidsN t id).any (thrN t) = true := by
      rw [List.any_eq_true]
      refine ⟨x.id, kids_iff.mpr ⟨x, hx, h1.1, rfl⟩, ?_⟩
      unfold thrN
      rw [nodeN_of w hx]
      simpa using h1.2
     rw [this]
     rfl
end Go.Dm

/- Plain theory, part 32: new groups. -/
namespace Go.Dm
theorem copied_tree_t {t : Tree} (w : WfT t) : copied_tree t = some t := by
 have l2 := w.len2
 unfold copied_tree Clone_slices_Node
 rw [if_pos (by omega)]
 rfl
theorem Add_tree_t {t : Tree} (w : WfT t) (p : Int) {s : ByteArray} (hs : s.size ≤ 1073741824) : Add_tree t p s = some (addT t p s) := by
 have l2 := w.len2
 have hnx := w.nextLe
 have hnx1 : 1 ≤ t.next := by
  obtain ⟨x, r, e, hx⟩ := w.root
  have := w.next x (by rw [e]; simp)
  have := hx.id
  omega
 unfold Add_tree addT
 rw [Check_tree_t w, Option.bind_some, if_neg (by simp), Valid_name_eq s hs, Option.bind_some]
 unfold Add_treeJ1 AddFa_tree
 cases hv : validN s with
 | false => rfl
 | true =>
  simp only [Bool.not_true, Bool.false_eq_true, if_false]
  obtain ⟨q, eq, hq, _⟩ := At_forest_has t p (by omega)
  rw [eq, Option.bind_some, hq]
  cases hp : hasN t p with
  | false => rfl
  | true =>
   simp only [Bool.not_true, Bool.false_eq_true, if_false]
   have hch : child_tree t p s = some ((t.nodes.find? (fun x => x.parent == p && beqS x.name s)).elim 0 (·.id)) := by
    unfold child_tree
    rw [if_pos (by omega)]
    exact range_find (fun k x n => rfl) rfl
   rw [hch, Option.bind_some]
   have hany : (((t.nodes.find? (fun x => x.parent == p && beqS x.name s)).elim 0 (·.id) : Int) != 0) = t.nodes.any (fun x => x.parent == p && beqS x.name s) := by
    cases hf : t.nodes.find? (fun x => x.parent == p && beqS x.name s) with
    | none =>
     rw [List.find?_eq_none] at hf
     symm
     rw [List.any_eq_false.mpr hf]
     rfl
    | some x =>
     have h1 := List.find?_some hf
     have hx := List.mem_of_find?_eq_some hf
     have := w.id_pos hx
     rw [List.any_eq_true.mpr ⟨x, hx, h1⟩]
     simp
     omega
   rw [hany]
   cases ha : t.nodes.any (fun x => x.parent == p && beqS x.name s) with
   | true => rfl
   | false =>
    simp only [Bool.false_eq_true, if_false]
    have hul : (upT t p).length ≤ t.nodes.length := by
     have := upR_length t.nodes.reverse p
     simpa [upT] using this
    have hdp : Depth_tree t p = some (((upT t p).length : Int) - 1) := by
     unfold Depth_tree Ancestors_tree checked_tree
     rw [Check_tree_t w]
     simp only [Option.bind_some, Bool.not_true, Bool.false_eq_true, if_false]
     rw [Ancestors_forest_t w]
     simp only [Option.bind_some]
     rw [w64_id (by omega) (by omega)]
    rw [hdp, Option.bind_some]
    unfold Add_treeJ2 AddFa_tree
    by_cases h9 : 9 ≤ (upT t p).length
    ·have e1 : decide (((upT t p).length : Int) - 1 ≥ 8) = true := decide_eq_true (by omega)
     have e2 : decide (9 ≤ (upT t p).length) = true := decide_eq_true h9
     rw [e1, e2]
     rfl
    ·have e1 : decide (((upT t p).length : Int) - 1 ≥ 8) = false := decide_eq_false (by omega)
     have e2 : decide (9 ≤ (upT t p).length) = false := decide_eq_false h9
     rw [e1, e2]
     simp only [Bool.false_eq_true, if_false, Bool.false_or]
     by_cases h64 : 64 ≤ t.nodes.length
     ·have e3 : decide (((t.nodes.length : Nat) : Int) ≥ 64) = true := decide_eq_true (by omega)
      have e4 : decide (64 ≤ t.nodes.length) = true := decide_eq_true h64
      rw [e3, e4]
      rfl
     ·have e3 : decide (((t.nodes.length : Nat) : Int) ≥ 64) = false := decide_eq_false (by omega)
      have e4 : decide (64 ≤ t.nodes.length) = false := decide_eq_false h64
      rw [e3, e4]
      simp only [Bool.false_eq_true, if_false, Bool.false_or]
      by_cases hn : 2147483647 < t.next
      ·have e5 : decide (t.next > 2147483647) = true := decide_eq_true hn
       rw [e5]
       rfl
      ·have e5 : decide (t.next > 2147483647) = false := decide_eq_false hn
       rw [e5]
       simp only [Bool.false_eq_true, if_false]
       rw [copied_tree_t w, Option.bind_some, if_pos (by omega), w64_id (by omega) (by omega)]
def createK (h : Hierarchy) (p : Int) (s : ByteArray) : Hierarchy × Int × Int :=
 if (addT h.tree p s).2.2 != 0 then (zH, 0, (addT h.tree p s).2.2) else ({ tree := (addT h.tree p s).1, tasks := h.tasks, next := h.next }, (addT h.tree p s).2.1, 0)
theorem Create_threaded_t {h : Hierarchy} (f : FitsP h) (p : Int) {s : ByteArray} (hs : s.size ≤ 1073741824) : Create_threaded h p s = some (createK h p s) := by
 have w := f.snd.wf
 have l1 := w.len
 have l2 := w.tree.len2
 unfold Create_threaded createK
 rw [Fits_threaded_t f, Option.bind_some, if_neg (by simp), Add_tree_t w.tree p hs, Option.bind_some]
 cases e : ((addT h.tree p s).2.2 != 0)
 ·simp only [Bool.false_eq_true, if_false]
  rw [Copy_crew_eq h (by omega) (by omega)]
  rfl
 ·rfl
theorem createK_fits {h : Hierarchy} (f : FitsP h) {p : Int} {s : ByteArray} (e : (createK h p s).2.2 = 0) : FitsP (createK h p s).1 := by
 unfold createK at e ⊢
 split at e
 ·rename_i c
  simp at e c
  exact absurd e c
 ·rename_i c
  rw [if_neg c]
  exact create_fits f (addT_grown f.snd.wf.tree rfl (by simpa using c)).1
end Go.Dm

/- Plain theory, part 33: controllers are written, groups are made threaded. -/
namespace Go.Dm
theorem all2 {p : Int → Int → Bool} (h : (List.range 32).all (fun a => (List.range 32).all (fun b => p (a : Int) (b : Int))) = true) {a b : Int} (a0 : 0 ≤ a) (a1 : a ≤ 31) (b0 : 0 ≤ b) (b1 : b ≤ 31) : p a b = true := by
 have h1 := List.all_eq_true.mp h a.toNat (by rw [List.mem_range]; omega)
 have h2 := List.all_eq_true.mp h1 b.toNat (by rw [List.mem_range]; omega)
 rw [show ((a.toNat : Nat) : Int) = a by omega, show ((b.toNat : Nat) : Int) = b by omega] at h2
 exact h2
def bitsB (a b : Int) : Bool := (kand .i64 (kandNot .i64 a b) 6 == kandNot .i64 (kand .i64 a 6) b) && decide (0 ≤ kandNot .i64 a b) && decide (kandNot .i64 a b ≤ 31) && decide (0 ≤ kor .i64 a b) && decide (kor .i64 a b ≤ 31)
theorem bits_and : (List.range 32).all (fun a => (List.range 32).all (fun b => bitsB (a : Int) (b : Int))) = true := by decide +kernel
theorem andNot_bounds {a b : Int} (a0 : 0 ≤ a) (a1 : a ≤ 31) (b0 : 0 ≤ b) (b1 : b ≤ 31) : 0 ≤ kandNot .i64 a b ∧ kandNot .i64 a b ≤ 31 := by
 have := all2 (p := bitsB) bits_and a0 a1 b0 b1
 simp only [bitsB, Bool.and_eq_true, decide_eq_true_eq] at this
 exact ⟨this.1.1.1.2, this.1.1.2⟩
theorem or_bounds {a b : Int} (a0 : 0 ≤ a) (a1 : a ≤ 31) (b0 : 0 ≤ b) (b1 : b ≤ 31) : 0 ≤ kor .i64 a b ∧ kor .i64 a b ≤ 31 := by
 have := all2 (p := bitsB) bits_and a0 a1 b0 b1
 simp only [bitsB, Bool.and_eq_true, decide_eq_true_eq] at this
 exact ⟨this.1.2, this.2⟩
theorem and_swap {a b : Int} (a0 : 0 ≤ a) (a1 : a ≤ 31) (b0 : 0 ≤ b) (b1 : b ≤ 31) : kandNot .i64 (kand .i64 a 6) b = kand .i64 (kandNot .i64 a b) 6 := by
 have := all2 (p := bitsB) bits_and a0 a1 b0 b1
 simp only [bitsB, Bool.and_eq_true, beq_iff_eq] at this
 exact this.1.1.1.1.symm
def isSet (n : Int) : Bool := decide (n ≥ 0) && decide (n ≤ 31)
def wroteN (x : Node) (a d : Int) : Node := { id := x.id, parent := x.parent, name := x.name, control := kor .i64 (kandNot .i64 x.control d) a, kind := x.kind, owner := x.owner }
def writeK (h : Hierarchy) (id a d : Int) : Hierarchy × Int :=
 if !isSet a || !isSet d || (kand .i64 a d != 0) then (zH, 1) else if !hasN h.tree id then (zH, 4)
 else if kandNot .i64 a (availN h.tree (nodeN h.tree id)) != 0 then (zH, 9)
 else if h.tree.nodes.any (fun x => (x.parent == id) && (kand .i64 x.control d != 0)) then (zH, 9)
 else if (kand .i64 (kandNot .i64 (wroteN (nodeN h.tree id) a d).control (nodeN h.tree id).control) 6 != 0) && ((id != 1) && decide ((((tasksK h id).length : Nat) : Int) > 0)) then (zH, 6)
 else (withN h (wroteN (nodeN h.tree id) a d), 0)
theorem find_any {α β : Type} {p : α → Bool} {a b : β} {xs : List α} : (xs.find? p).elim a (fun _ => b) = if xs.any p then b else a := by
 cases h : xs.find? p with
 | none =>
  rw [List.find?_eq_none] at h
  rw [if_neg]
  ·rfl
  ·simpa using h
 | some x =>
  rw [if_pos (List.any_eq_true.mpr ⟨x, List.mem_of_find?_eq_some h, List.find?_some h⟩)]
  rfl
theorem Write_ref7_t {h : Hierarchy} (s : SoundP h) (id a d : Int) : Write_ref7 h id a d = some (writeK h id a d) := by
 have w := s.wf
 have l1 := w.len
 have l2 := w.tree.len2
 have hs : Sound_ref7 h = some true := by
  obtain ⟨b, e, hb⟩ := Sound_ref7_iff h
  rw [e, hb.mpr s]
 unfold Write_ref7 writeK
 rw [hs, Option.bind_some, if_neg (by simp)]
 have hset : ∀ n, Set_ref7 n = some (isSet n) := fun n => rfl
 rw [hset, Option.bind_some, hset, Option.bind_some]
 cases ha : isSet a with
 | false => rfl
 | true =>
 cases hd : isSet d with
 | false => rfl
 | true =>
 simp only [Bool.not_true, Bool.false_eq_true, if_false, Bool.false_or]
 unfold Write_ref7J1
 cases hk : (kand .i64 a d != 0) with
 | true => rfl
 | false =>
 simp only [Bool.false_eq_true, if_false]
 rw [find5 w.tree, Option.bind_some]
 cases hg : hasN h.tree id with
 | false => rfl
 | true =>
 simp only [Bool.not_true, Bool.false_eq_true, if_false]
 obtain ⟨hid, hmem⟩ := nodeN_id hg
 have hav := Available_ref7_t w.tree hmem
 rw [hid] at hav
 rw [hav, Option.bind_some]
 cases hav : (kandNot .i64 a (availN h.tree (nodeN h.tree id)) != 0) with
 | true => rfl
 | false =>
 simp only [Bool.false_eq_true, if_false]
 have hkl := kidsN_length h.tree id
 rw [Children_ref5_t w.tree, Option.bind_some, hg, if_pos rfl, if_pos (by omega)]
 have hJ4 : ∀ b, Write_ref7J4 h a d (nodeN h.tree id, true) b = some (if b then (zH, 6) else (withN h (wroteN (nodeN h.tree id) a d), 0)) := by
  intro b
  unfold Write_ref7J4
  cases b
  ·rw [if_neg (by simp), Copy_ref6_eq h (by omega) (by omega), Option.bind_some, Set_ref5_eq _ _ (by omega)]
   rfl
  ·rfl
 have hb := (w.tree.p.val _ hmem)
 have hD : Write_ref7D1 h id a d (nodeN h.tree id, true) () = some (if (kand .i64 (kandNot .i64 (wroteN (nodeN h.tree id) a d).control (nodeN h.tree id).control) 6 != 0) && ((id != 1) && decide ((((tasksK h id).length : Nat) : Int) > 0)) then (zH, 6) else (withN h (wroteN (nodeN h.tree id) a d), 0)) := by
  unfold Write_ref7D1
  simp only [hJ4]
  unfold isSet at ha hd
  simp only [Bool.and_eq_true, decide_eq_true_eq] at ha hd
  have hb1 := andNot_bounds hb.c1 hb.c2 hd.1 hd.2
  have hb2 := or_bounds hb1.1 hb1.2 ha.1 ha.2
  rw [and_swap hb2.1 hb2.2 hb.c1 hb.c2]
  rw [show kor .i64 (kandNot .i64 (nodeN h.tree id).control d) a = (wroteN (nodeN h.tree id) a d).control from rfl]
  cases (kand .i64 (kandNot .i64 (wroteN (nodeN h.tree id) a d).control (nodeN h.tree id).control) 6 != 0)
  ·rfl
  ·cases (id != 1)
   ·rfl
   ·simp only [if_true, Bool.true_and]
    rw [Tasks_ref6_t w, Option.bind_some]
 rw [range_find (p := fun c => kand .i64 (nodeN h.tree c).control d != 0) (f := fun _ => (zH, 9)) (fun k x n => by unfold Write_ref7L1; rw [find5 w.tree, Option.bind_some]; rfl) hD, find_any]
 have hany : (kidsN h.tree id).any (fun c => kand .i64 (nodeN h.tree c).control d != 0) = h.tree.nodes.any (fun x => (x.parent == id) && (kand .i64 x.control d != 0)) := by
  unfold kidsN
  rw [List.any_map, List.any_filter, Bool.eq_iff_iff, List.any_eq_true, List.any_eq_true]
  constructor
  ·rintro ⟨x, hx, e⟩
   refine ⟨x, hx, ?_⟩
   simpa [nodeN_of w.tree hx] using e
  ·rintro ⟨x, hx, e⟩
   refine ⟨x, hx, ?_⟩
   simpa [nodeN_of w.tree hx] using e
 rw [hany]
theorem wroteN_wf {h : Hierarchy} (w : WfH h) {x : Node} (hx : x ∈ h.tree.nodes) {y : Node} (e1 : y.id = x.id) (e2 : y.parent = x.parent) (e3 : y.name = x.name) (v : NodeV y) (k : x.id = 1 → y.kind = 0) : WfH (withN h y) := by
 refine ⟨setT_wf w.tree hx e1 e2 e3 v k, w.len, w.n1, w.n2, w.sorted, w.lt, ?_⟩
 intro t ht
 have := w.val t ht
 refine ⟨this.pos, ?_, this.u1, this.u2, this.ldr⟩
 have hh := this.grp
 rw [hasN_iff] at hh ⊢
 obtain ⟨z, hz, ez⟩ := hh
 refine ⟨setN y z, List.mem_map_of_mem hz, ?_⟩
 unfold setN
 split
 ·rename_i c
  have : z.id = y.id := by simpa using c
  omega
 ·exact ez
theorem writeK_wf {h : Hierarchy} (s : SoundP h) {id a d : Int} (e : (writeK h id a d).2 = 0) : WfH (writeK h id a d).1 ∧ hasN h.tree id = true ∧ writeK h id a d = (withN h (wroteN (nodeN h.tree id) a d), 0) := by
 unfold writeK at e ⊢
 split at e
 ·simp at e
 rename_i c1
 rw [if_neg c1]
 split at e
 ·simp at e
 rename_i c2
 rw [if_neg c2]
 split at e
 ·simp at e
 rename_i c3
 rw [if_neg c3]
 split at e
 ·simp at e
 rename_i c4
 rw [if_neg c4]
 split at e
 ·simp at e
 rename_i c5
 rw [if_neg c5]
 have hg : hasN h.tree id = true := by simpa using c2
 refine ⟨?_, hg, rfl⟩
 obtain ⟨hid, hmem⟩ := nodeN_id hg
 have hb := (s.wf.tree.p.val _ hmem)
 simp only [isSet, Bool.or_eq_true, Bool.not_eq_true', not_or, Bool.not_eq_false, Bool.and_eq_true, decide_eq_true_eq] at c1
 have ha := c1.1.1
 have hd := c1.1.2
 have hb1 := andNot_bounds hb.c1 hb.c2 hd.1 hd.2
 have hb2 := or_bounds hb1.1 hb1.2 ha.1 ha.2
 exact wroteN_wf s.wf hmem rfl rfl rfl ⟨hb.kind, hb2.1, hb2.2, hb.o1, hb.o2⟩ (fun e1 => (root_node s.wf.tree hmem e1).2)
noncomputable def enableK (h : Hierarchy) (id a d : Int) : Hierarchy × Int :=
 open Classical in
 if (writeK h id a d).2 != 0 then (zH, (writeK h id a d).2) else if FitsP (writeK h id a d).1 then ((writeK h id a d).1, 0) else (zH, 10)
theorem Enable_ref8_t {h : Hierarchy} (f : FitsP h) (id a d : Int) : Enable_ref8 h id a d = some (enableK h id a d) := by
 unfold Enable_ref8 enableK
 rw [Fits_ref8_t f, Option.bind_some, if_neg (by simp), Write_ref7_t f.snd id, Option.bind_some]
 cases e : ((writeK h id a d).2 != 0) with
 | true => rfl
 | false =>
  simp only [Bool.false_eq_true, if_false]
  by_cases g : FitsP (writeK h id a d).1
  ·rw [Fits_ref8_t g, Option.bind_some, if_pos g]
   rfl
  ·rw [Fits_ref8_f g, Option.bind_some, if_neg g]
   rfl
theorem enableK_ok {h : Hierarchy} (f : FitsP h) {id a d : Int} (e : (enableK h id a d).2 = 0) : FitsP (enableK h id a d).1 ∧ hasN h.tree id = true ∧ enableK h id a d = (withN h (wroteN (nodeN h.tree id) a d), 0) ∧ (writeK h id a d).2 = 0 := by
 unfold enableK at e ⊢
 cases c : ((writeK h id a d).2 != 0) with
 | true =>
  rw [c, if_pos rfl] at e
  simp at c
  exact absurd e c
 | false =>
  rw [c] at e
  simp only [Bool.false_eq_true, if_false] at e ⊢
  have c0 : (writeK h id a d).2 = 0 := by simpa using c
  have hw := writeK_wf f.snd c0
  by_cases g : FitsP (writeK h id a d).1
  ·rw [if_pos g]
   refine ⟨g, hw.2.1, ?_, c0⟩
   rw [hw.2.2]
  ·rw [if_neg g] at e
   simp at e
def thrdN (x : Node) : Node := { id := x.id, parent := x.parent, name := x.name, control := x.control, kind := 1, owner := x.owner }
noncomputable def convertK (h : Hierarchy) (id : Int) : Hierarchy × Int :=
 open Classical in
 if !hasN h.tree id then (zH, 4) else if (id == 1) || ((nodeN h.tree id).kind == 1) then (zH, 9)
 else if (typeN h.tree (nodeN h.tree id).parent == 3) || (((nodeN h.tree id).parent != 1) && (kand .i64 (nodeN h.tree (nodeN h.tree id).parent).control 6 != 0)) then (zH, 10)
 else if kand .i64 (nodeN h.tree id).control 6 != 0 then (zH, 9)
 else if decide ((((tasksK h id).length : Nat) : Int) > 0) then (zH, 6)
 else if FitsP (withN h (thrdN (nodeN h.tree id))) then (withN h (thrdN (nodeN h.tree id)), 0) else (zH, 6)
theorem Convert_ref8_t {h : Hierarchy} (f : FitsP h) (id : Int) : Convert_ref8 h id = some (convertK h id) := by
 have w := f.snd.wf
 have l1 := w.len
 have l2 := w.tree.len2
 unfold Convert_ref8 convertK
 rw [Fits_ref8_t f, Option.bind_some, if_neg (by simp), find5 w.tree, Option.bind_some]
 cases hg : hasN h.tree id with
 | false => rfl
 | true =>
 obtain ⟨hid, hmem⟩ := nodeN_id hg
 simp only [Bool.not_true, Bool.false_eq_true, if_false]
 cases hc : ((id == 1) || ((nodeN h.tree id).kind == 1)) with
 | true => rfl
 | false =>
 simp only [Bool.false_eq_true, if_false]
 rw [find5 w.tree, Option.bind_some, par_id w.tree hmem, Type_ref8_t w.tree, Option.bind_some]
 have hJ2 : ∀ b, Convert_ref8J2 h (setT h.tree (thrdN (nodeN h.tree id))) b = some (if b then (zH, 6) else (withN h (thrdN (nodeN h.tree id)), 0)) := by
  intro b
  cases b <;> rfl
 have hJ1 : ∀ b, Convert_ref8J1 h id (nodeN h.tree id, true) b = some (open Classical in if b then (zH, 10) else if kand .i64 (nodeN h.tree id).control 6 != 0 then (zH, 9) else if decide ((((tasksK h id).length : Nat) : Int) > 0) then (zH, 6) else if FitsP (withN h (thrdN (nodeN h.tree id))) then (withN h (thrdN (nodeN h.tree id)), 0) else (zH, 6)) := by
  intro b
  unfold Convert_ref8J1
  cases b
  ·simp only [Bool.false_eq_true, if_false]
   cases (kand .i64 (nodeN h.tree id).control 6 != 0) with
   | true => rfl
   | false =>
    simp only [Bool.false_eq_true, if_false]
    rw [Copy_ref6_eq h (by omega) (by omega), Option.bind_some, Set_ref5_eq _ _ (by omega), Option.bind_some, Tasks_ref6_t w, Option.bind_some]
    rw [show ({ id := (nodeN h.tree id).id, parent := (nodeN h.tree id).parent, name := (nodeN h.tree id).name, control := (nodeN h.tree id).control, kind := 1, owner := (nodeN h.tree id).owner } : Node) = thrdN (nodeN h.tree id) from rfl, hJ2]
    rw [show ({ tree := setT h.tree (thrdN (nodeN h.tree id)), tasks := h.tasks, next := h.next } : Hierarchy) = withN h (thrdN (nodeN h.tree id)) from rfl]
    split
    ·rfl
    ·by_cases g : FitsP (withN h (thrdN (nodeN h.tree id)))
     ·rw [Fits_ref8_t g, Option.bind_some, if_pos g, hJ2]
      rfl
     ·rw [Fits_ref8_f g, Option.bind_some, if_neg g, hJ2]
      rfl
  ·rfl
 simp only [hJ1]
 cases (typeN h.tree (nodeN h.tree id).parent == 3) with
 | true => rfl
 | false =>
  simp only [Bool.false_eq_true, if_false, Bool.false_or]
  cases ((nodeN h.tree id).parent != 1) with
  | true => rfl
  | false => rfl
theorem convertK_ok {h : Hierarchy} {id : Int} (e : (convertK h id).2 = 0) : FitsP (convertK h id).1 ∧ hasN h.tree id = true ∧ convertK h id = (withN h (thrdN (nodeN h.tree id)), 0) := by
 unfold convertK at e ⊢
 split at e
 ·simp at e
 rename_i c1
 rw [if_neg c1]
 split at e
 ·simp at e
 rename_i c2
 rw [if_neg c2]
 split at e
 ·simp at e
 rename_i c3
 rw [if_neg c3]
 split at e
 ·simp at e
 rename_i c4
 rw [if_neg c4]
 split at e
 ·simp at e
 rename_i c5
 rw [if_neg c5]
 split at e
 ·rename_i c6
  rw [if_pos c6]
  exact ⟨c6, by simpa using c1, rfl⟩
 ·simp at e
end Go.Dm

/- Plain theory, part 34: names of made groups are short. -/
namespace Go.Dm
theorem names_short : ∀ s ∈ [(bs [97]), (bs [98]), (bs [99]), (bs [119, 101, 98]), (bs [100, 98, 45, 49]), (bs [88, 95, 57])], s.size ≤ 4 := by decide
theorem Name_short {d : Dice} (h : DiceOk d) : Ok (Name_Dice_made d) (fun r => DiceOk r.2 ∧ validN r.1 = true ∧ r.1.size ≤ 4) := by
 unfold Name_Dice_made
 refine Ok.bind (NextPos_ok h 6 (by omega) (by omega)) fun r ⟨h1, h2, h3⟩ => ?_
 refine Ok.guard ⟨h2, h3⟩ ?_
 have hlt : r.1.toNat < [(bs [97]), (bs [98]), (bs [99]), (bs [119, 101, 98]), (bs [100, 98, 45, 49]), (bs [88, 95, 57])].length := by simp only [List.length_cons, List.length_nil]; omega
 refine Ok.guard hlt (Ok.ret ⟨h1, names_valid _ (getD_mem hlt), names_short _ (getD_mem hlt)⟩)
def ShortT (t : Tree) : Prop := ∀ x ∈ t.nodes, x.name.size ≤ 4
theorem short_add {t : Tree} (h : ShortT t) {p : Int} {s : ByteArray} (w : WfT t) (hs : s.size ≤ 4) (e : (addT t p s).2.2 = 0) : ShortT (addT t p s).1 := by
 have g := (addT_grown w rfl e).1
 intro x hx
 rw [g.nodes] at hx
 rcases List.mem_append.mp hx with hx | hx
 ·exact h x hx
 ·obtain rfl : x = { id := t.next, parent := p, name := s, control := 0, kind := 0, owner := 0 } := by simpa using hx
  exact hs
theorem short_remove {t : Tree} (h : ShortT t) {id : Int} (e : (removeT t id).2 = 0) : ShortT (removeT t id).1 := by
 intro x hx
 unfold removeT at e hx
 split at e
 ·simp at e
 rename_i c1
 rw [if_neg c1] at hx
 split at e
 ·simp at e
 rename_i c2
 rw [if_neg c2] at hx
 split at e
 ·simp at e
 rename_i c3
 rw [if_neg c3] at hx
 exact h x (List.mem_filter.mp hx).1
theorem short_with {h : Hierarchy} (s : ShortT h.tree) {x y : Node} (hx : x ∈ h.tree.nodes) (e : y.name = x.name) : ShortT (withN h y).tree := by
 intro z hz
 obtain ⟨v, hv, rfl⟩ := List.mem_map.mp hz
 unfold setN
 split
 ·rw [e]
  exact s x hx
 ·exact s v hv
theorem Tree_short {d : Dice} (h : DiceOk d) (n : Int) (h0 : 0 ≤ n) (h1 : n ≤ 1000) : Ok (Tree_Dice_made d n) (fun r => WfT r.1 ∧ DiceOk r.2 ∧ ShortT r.1) := by
 unfold Tree_Dice_made
 refine Ok.step New_ref5_eq ?_
 rw [w64_id (by omega) (by omega)]
 refine Ok.bind (NextPos_ok h (n + 1) (by omega) (by omega)) fun r ⟨a1, a2, a3⟩ => ?_
 refine Ok.while (fun s => DiceOk s.1 ∧ WfT s.2.1 ∧ s.2.2 ≤ 2000 ∧ 0 ≤ s.2.2 ∧ ShortT s.2.1) (fun s => s.2.2.toNat) ⟨a1, newT_wf, by simp only; omega, a2, ?_⟩ (by rw [FUEL_eq]; simp only; omega) ?_
 ·intro x hx
  obtain rfl : x = { id := 1, parent := 0, name := ByteArray.empty, control := 0, kind := 0, owner := 0 } := by simpa [newT] using hx
  decide
 rintro ⟨d, t, c⟩ k ⟨b1, b2, b3, b4, b5⟩ hk
 simp only at b1 b2 b3 b4 b5 hk
 unfold Tree_Dice_madeL1
 simp only
 refine Ok.ite (fun c1 => ?_) fun c1 => ?_
 ·have hc := of_decide_eq_true c1
  have l1 := b2.len1
  have l2 := b2.len2
  refine Ok.bind (NextPos_ok b1 _ (by omega) (by omega)) fun r2 ⟨q1, q2, q3⟩ => ?_
  refine Ok.guard ⟨q2, q3⟩ ?_
  refine Ok.bind (Name_short q1) fun r3 ⟨u1, u2, u3⟩ => ?_
  refine Ok.step (Add_ref5_t b2 _ _) ?_
  have hw : w64 (c - 1) = c - 1 := w64_id (by omega) (by omega)
  have hJ3 : ∀ y : Dice × Tree, DiceOk y.1 → WfT y.2 → ShortT y.2 → Ok (Tree_Dice_madeJ3 (d, t, c) k y) (fun r => WfT r.1 ∧ DiceOk r.2 ∧ ShortT r.1) := by
   intro y hy1 hy2 hy3
   unfold Tree_Dice_madeJ3
   simp only
   rw [hw]
   exact hk _ ⟨hy1, hy2, by simp only; omega, by simp only; omega, hy3⟩ (by simp only; omega)
  have hJ4 : ∀ y : Tree, WfT y → ShortT y → Ok (Tree_Dice_madeJ4 (d, t, c) k r3 y) (fun r => WfT r.1 ∧ DiceOk r.2 ∧ ShortT r.1) := by
   intro y hy hp
   unfold Tree_Dice_madeJ4
   refine Ok.bind (Bool_ok u1 6 (by omega)) fun r4 hr4 => ?_
   refine Ok.ite (fun _ => ?_) fun _ => ?_
   ·have y1 := hy.len1
    have y2 := hy.len2
    refine Ok.bind (NextPos_ok hr4 _ (by omega) (by omega)) fun r5 ⟨v1, v2, v3⟩ => ?_
    refine Ok.guard ⟨v2, v3⟩ ?_
    refine Ok.step (Remove_ref5_t hy _) ?_
    refine Ok.ite (fun c2 => ?_) fun _ => ?_
    ·exact hJ3 _ v1 (removeT_wf hy rfl (by simpa using c2)) (short_remove hp (by simpa using c2))
    ·exact hJ3 _ v1 hy hp
   ·exact hJ3 _ hr4 hy hp
  refine Ok.ite (fun c2 => ?_) fun _ => ?_
  ·exact hJ4 _ (addT_wf b2 rfl (by simpa using c2)) (short_add b5 b2 u3 (by simpa using c2))
  ·exact hJ4 _ b2 b5
 ·exact Ok.ret ⟨b2, b1, b5⟩
theorem spawnK_tree {h : Hierarchy} {g u : Int} {r : Hierarchy × Int × Int} (e : spawnK h g u = r) (hr : r.2.2 = 0) : r.1.tree = h.tree := by
 rw [spawnK_shape e hr]
theorem cloneK_tree {h : Hierarchy} {k : Int} {r : Hierarchy × Int × Int} (e : cloneK h k = r) (hr : r.2.2 = 0) : r.1.tree = h.tree := by
 unfold cloneK at e
 cases hk : getK h.tasks k with
 | none =>
  rw [hk] at e
  subst e
  simp at hr
 | some x =>
  rw [hk] at e
  rw [addK_shape e hr]
theorem exitK_tree {h : Hierarchy} {k : Int} {r : Hierarchy × Int} (e : exitK h k = r) (hr : r.2 = 0) : r.1.tree = h.tree := by
 unfold exitK at e
 cases hk : getK h.tasks k with
 | none =>
  rw [hk] at e
  subst e
  simp at hr
 | some x =>
  rw [hk] at e
  subst e
  rfl
theorem Tree_plain {d : Dice} (hd : DiceOk d) (n : Int) (n0 : 0 ≤ n) (n1 : n ≤ 1000) : Ok (Tree_Dice_made d n) (fun r => WfT r.1 ∧ DiceOk r.2 ∧ ∀ x ∈ r.1.nodes, x.control = 0 ∧ x.kind = 0) := by
 refine (Tree_inv hd n n0 n1 (fun _ t => WfT t → ∀ x ∈ t.nodes, x.control = 0 ∧ x.kind = 0) ?_ ?_ ?_ ?_).mono fun r ⟨a, b, s⟩ => ⟨a, b, s a⟩
 ·intro c _ _ _ x hx
  obtain rfl : x = { id := 1, parent := 0, name := ByteArray.empty, control := 0, kind := 0, owner := 0 } := by simpa [newT] using hx
  exact ⟨rfl, rfl⟩
 ·intro c t _ _ s
  exact s
 ·intro c t p s r w _ hp _ e hr _ x hx
  have g := (addT_grown w e hr).1
  rw [g.nodes] at hx
  rcases List.mem_append.mp hx with hx | hx
  ·exact hp w x hx
  ·obtain rfl : x = { id := t.next, parent := p, name := s, control := 0, kind := 0, owner := 0 } := by simpa using hx
   exact ⟨rfl, rfl⟩
 ·intro c t id r w _ hp e hr _ x hx
  refine hp w x ?_
  unfold removeT at e
  split at e
  ·subst e; simp at hr
  split at e
  ·subst e; simp at hr
  split at e
  ·subst e; simp at hr
  ·subst e
   exact (List.mem_filter.mp hx).1
theorem short_inv (n m : Int) : HInv n m (fun _ h => FitsP h ∧ ShortT h.tree) (fun _ h => FitsP h ∧ ShortT h.tree) := by
 have I := fits_inv n m
 refine ⟨?_, ?_, ?_, ?_, ?_, ?_, ?_, ?_, ?_, ?_⟩
 ·intro h g a r c w s e hr
  refine ⟨I.en h g a r c w s.1 e hr, ?_⟩
  rw [Enable_ref8_t s.1] at e
  have e := Option.some.inj e
  rw [← e] at hr ⊢
  obtain ⟨_, hg, e2, _⟩ := enableK_ok s.1 hr
  rw [e2]
  exact short_with s.2 (nodeN_id hg).2 rfl
 ·intro h g r c w s e hr
  refine ⟨I.co h g r c w s.1 e hr, ?_⟩
  rw [Convert_ref8_t s.1] at e
  have e := Option.some.inj e
  rw [← e] at hr ⊢
  obtain ⟨_, hg, e2⟩ := convertK_ok hr
  rw [e2]
  exact short_with s.2 (nodeN_id hg).2 rfl
 ·intro h x u c w s hx h1 u0 u1
  exact ⟨I.ow h x u c w s.1 hx h1 u0 u1, short_with s.2 hx rfl⟩
 ·intro c h w c0 s
  exact s
 ·intro c h g u r w c0 s ha u0 u1 e hr
  refine ⟨I.sp c h g u r w c0 s.1 ha u0 u1 e hr, ?_⟩
  rw [spawnK_tree e hr]
  exact s.2
 ·intro c h w c0 s
  exact s
 ·intro c h w c0 s
  exact s
 ·intro c h k r w c0 s e hr
  refine ⟨I.cl c h k r w c0 s.1 e hr, ?_⟩
  rw [cloneK_tree e hr]
  exact s.2
 ·intro c h k g r w c0 s e hr
  refine ⟨I.atc c h k g r w c0 s.1 e hr, ?_⟩
  rw [AttachThread_ref8_t s.1] at e
  have e := Option.some.inj e
  rw [← e] at hr ⊢
  rw [(attTK_ok hr).2.2.2.2]
  exact s.2
 ·intro c h k r w c0 s e hr
  refine ⟨I.ex c h k r w c0 s.1 e hr, ?_⟩
  rw [exitK_tree e hr]
  exact s.2
theorem Hierarchy_short {d : Dice} (hd : DiceOk d) (n m : Int) (n0 : 0 ≤ n) (n1 : n ≤ 100) (m0 : 0 ≤ m) (m1 : m ≤ 100) : Ok (Hierarchy_Dice_made d n m) (fun r => WfH r.1 ∧ DiceOk r.2 ∧ FitsP r.1 ∧ ShortT r.1.tree) := by
 refine Hierarchy_inv (short_inv n m) hd n0 n1 m0 m1 fun c c0 c1 => ?_
 obtain ⟨r, e, a, b, s⟩ := Tree_short hd n n0 (by omega)
 obtain ⟨r', e', _, _, p⟩ := Tree_plain hd n n0 (by omega)
 rw [e] at e'
 obtain rfl := Option.some.inj e'
 exact ⟨r, e, a, b, plain_fits a p, s⟩
end Go.Dm

/- The law ThreadedCreates, on the model. -/
namespace Go.Dm
theorem beqS_size {a b : ByteArray} (h : beqS a b = true) : a.size = b.size := by
 unfold beqS at h
 have := congrArg List.length (eq_of_beq h)
 rw [toList_data, toList_data] at this
 simpa using this
theorem threadedCreates_ok (l : List Int) : Ok (ThreadedCreates_law8 l) (· = true) := by
 have sane : ∀ {f : Bool → Option Bool}, f true = some true → Ok (Option.bind sane_law8 f) (· = true) := fun h => Ok.step sane_law8_t (Ok.of_eq h rfl)
 unfold ThreadedCreates_law8 Light_made
 refine Ok.step rfl ?_
 refine Ok.ite (fun _ => sane rfl) fun c => ?_
 have hl : l.length ≤ 600 := by
  have : ((l.length : Nat) : Int) ≤ 600 := by simpa using c
  omega
 refine Ok.step (a := { l := l, atF := 0 }) rfl ?_
 refine Ok.bind (Hierarchy_short (dice_roll hl) 6 6 (by omega) (by omega) (by omega) (by omega)) fun r5 ⟨w, hd, f, sh⟩ => ?_
 have l0 := w.tree.len1
 have l1 := w.len
 have l2 := w.tree.len2
 refine Ok.bind (NextPos_ok hd _ (by omega) (by omega)) fun r6 ⟨_, a1, a2⟩ => ?_
 refine Ok.guard ⟨a1, a2⟩ ?_
 have hi : r6.1.toNat < r5.1.tree.nodes.length := by omega
 have hx : r5.1.tree.nodes.getD r6.1.toNat default ∈ r5.1.tree.nodes := getD_mem hi
 generalize r5.1.tree.nodes.getD r6.1.toNat default = x at hx
 have hg := has_of hx
 generalize hs : bs [102, 114, 101, 115, 104] = s
 have s5 : s.size = 5 := by rw [← hs]; rfl
 have sv : validN s = true := by rw [← hs]; decide
 rw [Create_threaded_t f _ (by omega), Option.bind_some]
 have hno : r5.1.tree.nodes.any (fun y => y.parent == x.id && beqS y.name s) = false := by
  rw [List.any_eq_false]
  intro y hy h
  simp only [Bool.and_eq_true] at h
  have := beqS_size h.2
  have := sh y hy
  omega
 have hcases : (createK r5.1 x.id s).2.2 = 7 ∨ (createK r5.1 x.id s).2.2 = 0 := by
  unfold createK addT
  rw [sv, hg, hno]
  simp only [Bool.not_true, Bool.false_eq_true, if_false]
  split
  ·left
   rfl
  ·right
   rfl
 rcases hcases with h7 | h0
 ·rw [h7]
  simp only [bne_iff_ne, ne_eq, Int.reduceEq, not_false_eq_true, if_true, beq_self_eq_true]
  exact sane rfl
 rw [h0]
 simp only [bne_self_eq_false, Bool.false_eq_true, if_false]
 have cf := createK_fits f h0
 have hshape : createK r5.1 x.id s = ({ tree := (addT r5.1.tree x.id s).1, tasks := r5.1.tasks, next := r5.1.next }, (addT r5.1.tree x.id s).2.1, 0) ∧ (addT r5.1.tree x.id s).2.2 = 0 := by
  unfold createK at h0 ⊢
  split at h0
  ·rename_i c
   simp at c
   exact absurd h0 c
  ·rename_i c
   rw [if_neg c]
   exact ⟨rfl, by simpa using c⟩
 obtain ⟨e1, e2⟩ := hshape
 obtain ⟨g, gid⟩ := addT_grown w.tree rfl e2
 rw [e1] at cf ⊢
 rw [gid]
 simp only at cf ⊢
 generalize (addT r5.1.tree x.id s).1 = T at g cf
 have wT := cf.snd.wf
 rw [Type_threaded_t g.wf', Option.bind_some, Remove_ref6_t wT, Option.bind_some]
 have hhas : hasN T r5.1.tree.next = true := by
  unfold hasN
  rw [g.getNew]
  rfl
 have hnode : nodeN T r5.1.tree.next = { id := r5.1.tree.next, parent := x.id, name := s, control := 0, kind := 0, owner := 0 } := by
  unfold nodeN
  rw [g.getNew]
  rfl
 have hne1 : r5.1.tree.next ≠ 1 := by
  obtain ⟨z, r, e, hz⟩ := w.tree.root
  have := w.tree.next z (by rw [e]; simp)
  have := hz.id
  omega
 have hkids : kidsN T r5.1.tree.next = [] := by
  unfold kidsN
  rw [g.nodes, List.map_eq_nil_iff, List.filter_eq_nil_iff]
  intro y hy h
  have hp : y.parent = r5.1.tree.next := by simpa using h
  rcases List.mem_append.mp hy with hy | hy
  ·rcases w.tree.p.par y hy with ⟨_, hr⟩ | ⟨_, h2, _⟩
   ·have := hr.parent
    have h1 := w.tree.next x hx
    have h3 := w.tree.p.ge1 x hx
    omega
   ·have := w.tree.next y hy
    omega
  ·obtain rfl : y = { id := r5.1.tree.next, parent := x.id, name := s, control := 0, kind := 0, owner := 0 } := by simpa using hy
   have := w.tree.next x hx
   simp only at hp
   omega
 have htype : typeN T r5.1.tree.next = 0 ∨ typeN T r5.1.tree.next = 3 := by
  unfold typeN
  rw [hhas, hkids]
  have : thrN T r5.1.tree.next = false := by
   unfold thrN
   rw [hnode]
   rfl
  rw [this]
  cases invN T r5.1.tree.next <;> simp
 have hrem : removeK { tree := T, tasks := r5.1.tasks, next := r5.1.next } r5.1.tree.next = ({ tree := { nodes := r5.1.tree.nodes, next := T.next }, tasks := r5.1.tasks, next := r5.1.next }, 0) := by
  have ht : tasksK { tree := T, tasks := r5.1.tasks, next := r5.1.next } r5.1.tree.next = [] := by
   rw [tasks_nil]
   intro y hy h
   have := (w.val y hy).grp
   rw [h] at this
   unfold hasN at this
   rw [g.getNone] at this
   simp at this
  have hfil : T.nodes.filter (fun y => y.id != r5.1.tree.next) = r5.1.tree.nodes := by
   rw [g.nodes, List.filter_append]
   have h1 : r5.1.tree.nodes.filter (fun y => y.id != r5.1.tree.next) = r5.1.tree.nodes := by
    rw [List.filter_eq_self]
    intro y hy
    have := w.tree.next y hy
    simp
    omega
   rw [h1]
   simp
  unfold removeK removeT
  simp only [hhas, hkids, ht, hfil]
  have hb : (r5.1.tree.next == 1) = false := by simpa using hne1
  rw [hb]
  rfl
 rw [hrem]
 simp only [bne_self_eq_false, Bool.false_eq_true, if_false]
 rw [Fits_threaded_t cf, Option.bind_some]
 have hend : Ok (ThreadedCreates_law8J2 r5 ({ tree := { nodes := r5.1.tree.nodes, next := T.next }, tasks := r5.1.tasks, next := r5.1.next }, 0) false) (· = true) := by
  unfold ThreadedCreates_law8J2
  rw [if_neg (by simp)]
  refine Ok.step (Same_ref6_refl r5.1 (by omega) (by omega)) ?_
  exact sane rfl
 rcases htype with h | h
 ·rw [h]
  exact hend
 ·rw [h]
  exact hend
theorem threadedCreates_true (l : List Int) (_ : ∀ n ∈ l, -9223372036854775808 ≤ n ∧ n ≤ 9223372036854775807) : ThreadedCreates_law8 l = some true := (threadedCreates_ok l).eq
end Go.Dm

/- Models of Go types and functions, printed by a program. -/
namespace Go.Dm
set_option linter.unusedVariables false

end Go.Dm


/- The data machine, part 24: states by their changes; shorter words for the printed proofs. -/
namespace Go.Dm
def memN : List Nat → Nat → Bool
 | [], _ => false
 | a :: r, k => bif Nat.beq a k then true else memN r k
def delK {α : Type} (ds : List Nat) : List (Nat × α) → List (Nat × α)
 | [] => []
 | (k, x) :: r => bif memN ds k then delK ds r else (k, x) :: delK ds r
def insK {α : Type} (k : Nat) (x : α) : List (Nat × α) → List (Nat × α)
 | [] => [(k, x)]
 | (t, y) :: r => bif Nat.beq k t then (k, x) :: r else bif Nat.ble k t then (k, x) :: (t, y) :: r else (t, y) :: insK k x r
def insA {α : Type} : List (Nat × α) → List (Nat × α) → List (Nat × α)
 | [], l => l
 | (k, x) :: r, l => insK k x (insA r l)
def up {α : Type} (ds : List Nat) (us l : List (Nat × α)) : List (Nat × α) := insA us (delK ds l)
theorem assoc_insK {α : Type} (k : Nat) (x : α) (l : List (Nat × α)) (j : Nat) : assoc (insK k x l) j = assoc ((k, x) :: l) j := by
 induction l with
 | nil => rfl
 | cons p r ih =>
  obtain ⟨t, y⟩ := p
  rw [insK]
  cases hb : Nat.beq k t with
  | true =>
   have := Nat.eq_of_beq_eq_true hb
   subst this
   simp only [cond_true, assoc]
   cases Nat.beq j k <;> rfl
  | false =>
   simp only [cond_false]
   cases Nat.ble k t with
   | true => rfl
   | false =>
    simp only [cond_false, assoc] at ih ⊢
    rw [ih]
    cases h1 : Nat.beq j t with
    | true =>
     have := Nat.eq_of_beq_eq_true h1
     subst this
     cases h2 : Nat.beq j k with
     | true =>
      have := Nat.eq_of_beq_eq_true h2
      subst this
      rw [h1] at hb
      cases hb
     | false => rfl
    | false => rfl
theorem mset_has {α : Type} (m : IMap α) (n : Int) (v : α) : updI m.has n true = (m.set n v).has := rfl
theorem mset_get {α : Type} (enc : α → PV) (m : IMap α) (n : Int) (v : α) : updI (fun j => enc (m.get j)) n (enc v) = fun j => enc ((m.set n v).get j) := by
 funext j
 show (if j = n then enc v else enc (m.get j)) = enc (if j = n then v else m.get j)
 split <;> rfl
inductive AdP where
 | s (t : Nat)
 | a (t j : Nat)
 | o (q j : Nat)
def adNil (k : Nat) : MV → Option MV
 | .p (.sl .nil _ n _) => bif Nat.beq n 0 then some (.own k 0 0 0) else none
 | _ => none
def adCell (k : Nat) : Nat → List MV → Option (List MV)
 | _, [] => none
 | 0, x :: r => match adNil k x with
  | some y => some (y :: r)
  | none => none
 | j + 1, x :: r => match adCell k j r with
  | some s => some (x :: s)
  | none => none
def adMV (k : Nat) : Option Nat → MV → Option MV
 | none, x => adNil k x
 | some j, .agg cs => (adCell k j cs).map .agg
 | _, _ => none
def adObj (k j : Nat) : Obj → Option Obj
 | ⟨g, .box cs⟩ => (adCell k j cs).map fun ds => ⟨g, .box ds⟩
 | _ => none
def adSlot (k t : Nat) (j : Option Nat) : List (Nat × MV) → Option (List (Nat × MV))
 | [] => none
 | (q, x) :: r => bif Nat.beq q t then (adMV k j x).map fun y => (q, y) :: r else (adSlot k t j r).map fun s => (q, x) :: s
def adBox (k q j : Nat) : List (Nat × Obj) → Option (List (Nat × Obj))
 | [] => none
 | (i, o) :: r => bif Nat.beq i q then (adObj k j o).map fun p => (i, p) :: r else (adBox k q j r).map fun s => (i, o) :: s
def adOne (k : Nat) (sl : List (Nat × MV)) (ob : List (Nat × Obj)) : AdP → Option (List (Nat × MV) × List (Nat × Obj))
 | .s t => (adSlot k t none sl).map fun s => (s, ob)
 | .a t j => (adSlot k t (some j) sl).map fun s => (s, ob)
 | .o q j => (adBox k q j ob).map fun b => (sl, b)
def adAll : List (AdP × Nat × Nat × (Nat → List PV)) → List (Nat × MV) → List (Nat × Obj) → Option (List (Nat × MV) × List (Nat × Obj))
 | [], sl, ob => some (sl, ob)
 | (p, k, W, f) :: r, sl, ob => bif Nat.ble 1000 k && (assoc ob k).isNone then (adOne k sl ob p).bind fun q => adAll r q.1 (insK k ⟨0, .row W 0 f⟩ q.2) else none
theorem adNil_ok {k : Nat} {x y : MV} (h : adNil k x = some y) : Ad1 k x y := by
 unfold adNil at h
 split at h
 ·rename_i W n f
  cases hb : Nat.beq n 0 with
  | true =>
   rw [hb] at h
   have := Nat.eq_of_beq_eq_true hb
   subst this
   simp only [cond_true, Option.some.injEq] at h
   subst h
   exact .nil _ _
  | false => rw [hb] at h; simp at h
 ·simp at h
theorem adCell_ok {k : Nat} : ∀ {j : Nat} {l m : List MV}, adCell k j l = some m → AdL k l m
 | _, [], _, h => by simp [adCell] at h
 | 0, x :: r, m, h => by
  rw [adCell] at h
  split at h
  ·rename_i y hy
   simp only [Option.some.injEq] at h
   subst h
   exact .cons (adNil_ok hy) (.rfl _)
  ·simp at h
 | j + 1, x :: r, m, h => by
  rw [adCell] at h
  split at h
  ·rename_i s hs
   simp only [Option.some.injEq] at h
   subst h
   exact .cons (.rfl _) (adCell_ok hs)
  ·simp at h
theorem adMV_ok {k : Nat} {j : Option Nat} {x y : MV} (h : adMV k j x = some y) : Ad k x y := by
 unfold adMV at h
 split at h
 ·exact .one (adNil_ok h)
 ·obtain ⟨ds, hd, rfl⟩ := Option.map_eq_some_iff.mp h
  exact .agg (adCell_ok hd)
 ·simp at h
theorem adSlot_ok {k t : Nat} {j : Option Nat} : ∀ {l m : List (Nat × MV)}, adSlot k t j l = some m → AdS k l m
 | [], _, h => by simp [adSlot] at h
 | (q, x) :: r, m, h => by
  rw [adSlot] at h
  cases hb : Nat.beq q t with
  | true =>
   rw [hb, cond_true] at h
   obtain ⟨y, hy, rfl⟩ := Option.map_eq_some_iff.mp h
   exact .cons (adMV_ok hy) (.rfl _)
  | false =>
   rw [hb, cond_false] at h
   obtain ⟨s, hs, rfl⟩ := Option.map_eq_some_iff.mp h
   exact .cons (.one (.rfl _)) (adSlot_ok hs)
theorem adBox_ok {k q j : Nat} : ∀ {l m : List (Nat × Obj)}, adBox k q j l = some m → AdO k l m
 | [], _, h => by simp [adBox] at h
 | (i, o) :: r, m, h => by
  rw [adBox] at h
  cases hb : Nat.beq i q with
  | true =>
   rw [hb, cond_true] at h
   obtain ⟨p, hp, rfl⟩ := Option.map_eq_some_iff.mp h
   unfold adObj at hp
   split at hp
   ·obtain ⟨ds, hd, rfl⟩ := Option.map_eq_some_iff.mp hp
    exact .box (adCell_ok hd) (.rfl _)
   ·simp at hp
  | false =>
   rw [hb, cond_false] at h
   obtain ⟨s, hs, rfl⟩ := Option.map_eq_some_iff.mp h
   exact .keep (adBox_ok hs)
theorem mkSt_ins (sl : List (Nat × MV)) (k : Nat) (o : Obj) (ob : List (Nat × Obj)) : mkSt sl (insK k o ob) = mkSt sl ((k, o) :: ob) := by
 unfold mkSt
 congr 1
 funext j
 exact assoc_insK k o ob j
theorem Conv.adsAll {cx : Cx} : ∀ (acts : List (AdP × Nat × Nat × (Nat → List PV))) {sl sl' : List (Nat × MV)} {ob ob' : List (Nat × Obj)}, adAll acts sl ob = some (sl', ob') → Conv cx (mkSt sl ob) (mkSt sl' ob')
 | [], sl, sl', ob, ob', h => by
  simp only [adAll, Option.some.injEq, Prod.mk.injEq] at h
  obtain ⟨rfl, rfl⟩ := h
  exact .refl
 | (p, k, W, f) :: r, sl, sl', ob, ob', h => by
  rw [adAll] at h
  cases hk : (Nat.ble 1000 k && (assoc ob k).isNone) with
  | false => rw [hk] at h; simp at h
  | true =>
   rw [hk, cond_true] at h
   obtain ⟨q, hq, h⟩ := Option.bind_eq_some_iff.mp h
   rw [Bool.and_eq_true, Option.isNone_iff_eq_none] at hk
   have a : Conv cx (mkSt sl ob) (mkSt q.1 (insK k ⟨0, .row W 0 f⟩ q.2)) := by
    rw [mkSt_ins]
    unfold adOne at hq
    split at hq
    ·obtain ⟨s, hs, rfl⟩ := Option.map_eq_some_iff.mp hq
     exact Conv.adopt k W f hk.1 hk.2 (adSlot_ok hs) (AdO.rfl ob)
    ·obtain ⟨s, hs, rfl⟩ := Option.map_eq_some_iff.mp hq
     exact Conv.adopt k W f hk.1 hk.2 (adSlot_ok hs) (AdO.rfl ob)
    ·obtain ⟨b, hb, rfl⟩ := Option.map_eq_some_iff.mp hq
     exact Conv.adopt k W f hk.1 hk.2 (AdS.rfl sl) (adBox_ok hb)
   exact a.trans (Conv.adsAll r h)
theorem Conv.ads {cx : Cx} (acts : List (AdP × Nat × Nat × (Nat → List PV))) {sl sl' : List (Nat × MV)} {ob ob' : List (Nat × Obj)} (h : adAll acts sl ob = some (sl', ob') := by kernel_rfl) : Conv cx (mkSt sl ob) (mkSt sl' ob') := Conv.adsAll acts h
theorem Conv.frz {cx : Cx} (ks : List Nat) {sl sl' : List (Nat × MV)} {ob ob' : List (Nat × Obj)} (h : frzAll ks (sl, ob) = (sl', ob') := by kernel_rfl) : Conv cx (mkSt sl ob) (mkSt sl' ob') := Conv.freezes ks h
section
variable {P : Program} {T : Ty} {cx : Cx} {σ : St} {Q : Exit → St → Prop} {R : Type}
theorem DW.rd {nt : Nat} (hT : TyGood P T) (hm : P.follows .mixedOrders = true) (hnt : cx.nt = nt) {ops : Array Oper} {id : Nat} {draw : Bool} {r : List Code} {sl0 : List (Nat × MV)} {ob0 : List (Nat × Obj)} (xs : List Orc) (ds : List Nat) (us : List (Nat × MV)) (dk : List Nat) (uo : List (Nat × Obj))
  {q : Prop} (hq : q) (hQ : DW P cx r (mkSt (up ds us sl0) (up dk uo ob0)) Q) (h : dregQ P T nt ops xs (keysW (up ds us sl0)) (keysW (up dk uo ob0)) draw (mkSt sl0 ob0) = some ((up ds us sl0, up dk uo ob0), q)) : DW P cx (.region id ops draw :: r) (mkSt sl0 ob0) Q :=
 DW.rk hT hm hnt xs _ _ hq h hQ
theorem DW.cv {c : Code} {r : List Code} {sl0 : List (Nat × MV)} {ob0 : List (Nat × Obj)} (ds : List Nat) (us : List (Nat × MV)) (dk : List Nat) (uo : List (Nat × Obj)) (h : Conv cx (mkSt sl0 ob0) (mkSt (up ds us sl0) (up dk uo ob0))) (k : DW P cx (c :: r) (mkSt (up ds us sl0) (up dk uo ob0)) Q) : DW P cx (c :: r) (mkSt sl0 ob0) Q := DW.conv h k
theorem Conv.eqK {sl0 sl : List (Nat × MV)} {ob0 ob : List (Nat × Obj)} (h : (sl0, ob0) = (sl, ob) := by kernel_rfl) : Conv cx (mkSt sl0 ob0) (mkSt sl ob) := by
 obtain ⟨rfl, rfl⟩ := Prod.mk.inj h
 exact .refl
theorem Conv.t0 {sl : List (Nat × MV)} {ob : List (Nat × Obj)} (h : (normSl (keysW sl) (keysW ob) σ, normOb (keysW ob) σ) = (patchS [] sl, patchO [] ob) := by kernel_rfl) : Conv cx σ (mkSt sl ob) := Conv.tp [] [] h .nil .nil
theorem condM {c : Operand} {x y : Code} {r : List Code} {b : Bool} {X Y : Option R} {res : R} (hm : (if b = true then X else Y) = some res) (h1 : b = true → X = some res → DW P cx (x :: r) σ Q) (h2 : b = false → Y = some res → DW P cx (y :: r) σ Q)
  (hk : constOK c = true := by kernel_rfl) (hc : ev σ c = .p (.v (.bool b)) := by kernel_rfl) : DW P cx (.cond c x y :: r) σ Q :=
 DW.cond b hk hc (fun e => h1 e (if_t e hm)) (fun e => h2 e (if_f e hm))
theorem condK {c : Operand} {x y : Code} {r : List Code} (b : Bool) (h1 : b = true → DW P cx (x :: r) σ Q) (h2 : b = false → DW P cx (y :: r) σ Q)
  (hk : constOK c = true := by kernel_rfl) (hc : ev σ c = .p (.v (.bool b)) := by kernel_rfl) : DW P cx (.cond c x y :: r) σ Q := DW.cond b hk hc h1 h2
theorem condT {c : Operand} {x y : Code} {r : List Code} {b : Bool} (hb : b = true) (h1 : DW P cx (x :: r) σ Q)
  (hk : constOK c = true := by kernel_rfl) (hc : ev σ c = .p (.v (.bool b)) := by kernel_rfl) : DW P cx (.cond c x y :: r) σ Q := DW.cond b hk hc (fun _ => h1) (fun e => by rw [hb] at e; cases e)
theorem condF {c : Operand} {x y : Code} {r : List Code} {b : Bool} (hb : b = false) (h1 : DW P cx (y :: r) σ Q)
  (hk : constOK c = true := by kernel_rfl) (hc : ev σ c = .p (.v (.bool b)) := by kernel_rfl) : DW P cx (.cond c x y :: r) σ Q := DW.cond b hk hc (fun e => by rw [hb] at e; cases e) (fun _ => h1)
theorem retK {results : List ResultVar} {m : Nat} {res : MV} {bs : List Body} (bs' : List Body) (ex : List Nat) (res' : MV) (h : fin T results m ex σ = some (res', bs') := by kernel_rfl) (e : res' = res := by rfl) (e2 : bs' = bs := by rfl) : finQ T results m res bs .ret σ := retOK ex res' h e e2
theorem endK {results : List ResultVar} {m : Nat} {res : MV} {bs : List Body} (bs' : List Body) (ex : List Nat) (res' : MV) (h : fin T results m ex σ = some (res', bs') := by kernel_rfl) (e : res' = res := by rfl) (e2 : bs' = bs := by rfl) : finQ T results m res bs .normal σ := endOK ex res' h e e2
theorem Sq {x y : Code} {r : List Code} (h : DW P cx (x :: y :: r) σ Q) : DW P cx (.seq x y :: r) σ Q := DW.seq h
theorem Sk {r : List Code} (h : DW P cx r σ Q) : DW P cx (.skip :: r) σ Q := DW.skip h
theorem Bk {id : Nat} {c : Code} {r : List Code} (h : DW P cx [c] σ (blockQ id (KQ P cx r Q))) : DW P cx (.block id c :: r) σ Q := DW.block h
theorem Jn {ι : Type} {c : Code} {r : List Code} (J : ι → St) (m : ι → Prop) (hj : ∀ i, m i → DW P cx r (J i) Q) (h : DW P cx [c] σ (joinQ cx J m (KQ P cx r Q))) : DW P cx (c :: r) σ Q := DW.join J m hj h
theorem jD {ι : Type} {J : ι → St} {m : ι → Prop} (i : ι) (h1 : m i) (h2 : Conv cx σ (J i)) : DW P cx [] σ (joinQ cx J m Q) := joinDone i h1 h2
theorem bD {ι : Type} {J : ι → St} {m : ι → Prop} {id : Nat} (i : ι) (h1 : m i) (h2 : Conv cx σ (J i)) : DW P cx [] σ (blockQ id (KQ P cx [] (joinQ cx J m Q))) := blockDone i h1 h2
theorem tv : True := trivial
theorem sj {a b : R} (h : some a = some b) : a = b := Option.some.inj h
theorem bo {α : Type} {x : Option α} {k : α → Option R} {r : R} (h : x.bind k = some r) : ∃ a, x = some a ∧ k a = some r := bind_open h
theorem go1 {p : Prop} [Decidable p] {x : Option R} {r : R} (h : (if p then x else none) = some r) : p ∧ x = some r := guard_open h
theorem go2 {p q : Prop} [Decidable p] [Decidable q] {x : Option R} {r : R} (h : (if p then if q then x else none else none) = some r) : p ∧ q ∧ x = some r := ⟨(guard_open h).1, guard_open (guard_open h).2⟩
theorem go3 {p q s : Prop} [Decidable p] [Decidable q] [Decidable s] {x : Option R} {r : R} (h : (if p then if q then if s then x else none else none else none) = some r) : p ∧ q ∧ s ∧ x = some r := ⟨(guard_open h).1, go2 (guard_open h).2⟩
theorem go4 {p q s t : Prop} [Decidable p] [Decidable q] [Decidable s] [Decidable t] {x : Option R} {r : R} (h : (if p then if q then if s then if t then x else none else none else none else none) = some r) : p ∧ q ∧ s ∧ t ∧ x = some r := ⟨(guard_open h).1, go3 (guard_open h).2⟩
end
end Go.Dm

/- Types of the program. -/
namespace Go.Dm
open Go.Proofs
set_option linter.unusedVariables false
def Tt : Ty := [(3, ⟨.int .i64, 1, 8, [.int .i64 0], false⟩),
  (5, ⟨.int .u8, 1, 1, [.int .u8 0], false⟩),
  (9, ⟨.str, 1, 16, [.string ByteArray.empty], false⟩),
  (22, ⟨.slice 3, 1, 24, [.slice none 0 0], false⟩),
  (27, ⟨.slice 35, 1, 24, [.slice none 0 0], false⟩),
  (29, ⟨.struct [(0, 27), (1, 3)], 2, 32, [.slice none 0 0, .int .i64 0], false⟩),
  (30, ⟨.slice 51, 1, 24, [.slice none 0 0], false⟩),
  (32, ⟨.struct [(0, 29), (2, 30), (3, 3)], 4, 64, [.slice none 0 0, .int .i64 0, .slice none 0 0, .int .i64 0], false⟩),
  (35, ⟨.struct [(0, 3), (1, 3), (2, 9), (3, 3), (4, 3), (5, 3)], 6, 56, [.int .i64 0, .int .i64 0, .string ByteArray.empty, .int .i64 0, .int .i64 0, .int .i64 0], true⟩),
  (37, ⟨.int .i64, 1, 8, [.int .i64 0], false⟩),
  (51, ⟨.struct [(0, 3), (1, 3), (2, 3), (3, 3)], 4, 32, [.int .i64 0, .int .i64 0, .int .i64 0, .int .i64 0], true⟩),
  (76, ⟨.struct [(0, 22), (1, 3)], 2, 32, [.slice none 0 0, .int .i64 0], false⟩),
  (84, ⟨.map 3 3, 1, 8, [(.map none)], false⟩),
  (91, ⟨.slice 9, 1, 24, [.slice none 0 0], false⟩),
  (118, ⟨.slice 5, 1, 24, [.slice none 0 0], false⟩),
  (126, ⟨.int .u64, 1, 8, [.int .u64 0], false⟩),
  (131, ⟨.int .i64, 1, 8, [.int .i64 0], false⟩),
  (140, ⟨.int .u64, 1, 8, [.int .u64 0], false⟩),
  (141, ⟨.int .u64, 1, 8, [.int .u64 0], false⟩)]
theorem Tgood : TyGood Tryz.prog Tt := tyGood_of ⟨⟨⟨by kernel_rfl, by kernel_rfl⟩, trivial⟩, ⟨⟨by kernel_rfl, by kernel_rfl⟩, trivial⟩, ⟨⟨by kernel_rfl, by kernel_rfl⟩, trivial⟩, ⟨⟨by kernel_rfl, by kernel_rfl⟩, trivial⟩, ⟨⟨by kernel_rfl, by kernel_rfl⟩, trivial⟩, ⟨⟨by kernel_rfl, by kernel_rfl⟩, trivial⟩, ⟨⟨by kernel_rfl, by kernel_rfl⟩, trivial⟩, ⟨⟨by kernel_rfl, by kernel_rfl⟩, trivial⟩, ⟨⟨by kernel_rfl, by kernel_rfl⟩, ⟨by kernel_rfl, by kernel_rfl, by kernel_rfl⟩⟩, ⟨⟨by kernel_rfl, by kernel_rfl⟩, trivial⟩, ⟨⟨by kernel_rfl, by kernel_rfl⟩, ⟨by kernel_rfl, by kernel_rfl, by kernel_rfl⟩⟩, ⟨⟨by kernel_rfl, by kernel_rfl⟩, trivial⟩, ⟨⟨by kernel_rfl, by kernel_rfl⟩, trivial⟩, ⟨⟨by kernel_rfl, by kernel_rfl⟩, trivial⟩, ⟨⟨by kernel_rfl, by kernel_rfl⟩, trivial⟩, ⟨⟨by kernel_rfl, by kernel_rfl⟩, trivial⟩, ⟨⟨by kernel_rfl, by kernel_rfl⟩, trivial⟩, ⟨⟨by kernel_rfl, by kernel_rfl⟩, trivial⟩, ⟨⟨by kernel_rfl, by kernel_rfl⟩, trivial⟩, trivial⟩ (by kernel_rfl) (by kernel_rfl)
theorem mixed : Tryz.prog.follows .mixedOrders = true := by kernel_rfl
theorem RK {cx : Cx} {σ : St} {Q : Exit → St → Prop} {nt : Nat} (hnt : cx.nt = nt) {ops : Array Oper} {id : Nat} {draw : Bool} {r : List Code} (xs : List Orc) (sl : List (Nat × MV)) (ob : List (Nat × Obj))
    {q : Prop} (hq : q) (hQ : DW Tryz.prog cx r (mkSt sl ob) Q) (h : dregQ Tryz.prog Tt nt ops xs (keysW sl) (keysW ob) draw σ = some ((sl, ob), q) := by kernel_rfl) : DW Tryz.prog cx (.region id ops draw :: r) σ Q := DW.rk Tgood mixed hnt xs sl ob hq h hQ
theorem RD {cx : Cx} {Q : Exit → St → Prop} {nt : Nat} (hnt : cx.nt = nt) {ops : Array Oper} {id : Nat} {draw : Bool} {r : List Code} {sl0 : List (Nat × MV)} {ob0 : List (Nat × Obj)} (xs : List Orc) (ds : List Nat) (us : List (Nat × MV)) (dk : List Nat) (uo : List (Nat × Obj))
    {q : Prop} (hq : q) (hQ : DW Tryz.prog cx r (mkSt (up ds us sl0) (up dk uo ob0)) Q) (h : dregQ Tryz.prog Tt nt ops xs (keysW (up ds us sl0)) (keysW (up dk uo ob0)) draw (mkSt sl0 ob0) = some ((up ds us sl0, up dk uo ob0), q) := by kernel_rfl) : DW Tryz.prog cx (.region id ops draw :: r) (mkSt sl0 ob0) Q := DW.rd Tgood mixed hnt xs ds us dk uo hq hQ h
theorem SO {f : FuncId} {fn : Func} {c : Code} (hf : Tryz.prog.funcs[f]? = some fn) (hb : fn.body = some c)
    {args : List MV} {outs : List Body} {res : MV} {outs' news : List Body} (hlen : outs'.length = outs.length)
    (sl : List (Nat × MV)) (ob : List (Nat × Obj)) (hd : ∀ cx : Cx, cx.nt = fn.ntmps → DW Tryz.prog cx [c] (mkSt sl ob) (finQ Tt fn.results.toList outs.length res (outs' ++ news)))
    (hname : fn.name ≠ "runtime.NumGoroutine" := by decide) (hle : Nat.ble args.length fn.ntmps = true := by rfl) (hm : Nat.ble outs.length 1000 = true := by rfl)
    (h1 : normSl (upN args.length 0) (upN outs.length 0) ⟨fun t => (args[t]?).getD .any, objsL outs⟩ = sl := by kernel_rfl)
    (h2 : normOb (upN outs.length 0) ⟨fun t => (args[t]?).getD .any, objsL outs⟩ = ob := by kernel_rfl) :
    Spec Tryz.prog f args outs res outs' news := spec_of Tgood hf hname hb hlen (Nat.le_of_ble_eq_true hle) (Nat.le_of_ble_eq_true hm) h1 h2 fun cx hnt => DW.start (hd cx hnt)
theorem RN {cx : Cx} {σ : St} {Q : Exit → St → Prop} {nt : Nat} (hnt : cx.nt = nt) {ops : Array Oper} {id : Nat} {draw : Bool} {r : List Code} (xs : List Orc) (sl : List (Nat × MV)) (ob : List (Nat × Obj))
    (ps : List (Nat × MV)) (qs : List (Nat × Body)) {q : Prop} (hq : q) (h : dregQ Tryz.prog Tt nt ops xs (keysW sl) (keysW ob) draw σ = some ((patchS ps sl, patchO qs ob), q)) (hs : SP sl ps) (ho : OP ob qs)
    (hQ : DW Tryz.prog cx r (mkSt sl ob) Q) : DW Tryz.prog cx (.region id ops draw :: r) σ Q := DW.rn Tgood mixed hnt xs sl ob ps qs hq h hs ho hQ
theorem RT {cx : Cx} {σ : St} {nt : Nat} (hnt : cx.nt = nt) {ops : Array Oper} {draw : Bool} {sl : List (Nat × MV)} {ob : List (Nat × Obj)} (xs : List Orc)
    (ps : List (Nat × MV)) {q : Prop} (hq : q) (h : dregQ Tryz.prog Tt nt ops xs (keysW sl) (keysW ob) draw σ = some ((patchS ps sl, ob), q)) (hs : SP sl ps) : RegTo Tryz.prog cx ops draw σ sl ob := RegTo.rn Tgood mixed hnt xs ps hq h hs
end Go.Dm


/- Go functions compute their models, printed by a program. -/
namespace Go.Dm
open Go.Proofs
set_option linter.unusedVariables false
theorem Light_madeSpec (p0 : List Int) (RES : Bool) (hm : Light_made p0 = some RES) : Spec Tryz.prog 15 [.p (slI p0)] [] (pB RES) [] [] := by
 unfold Light_made at hm
 refine SO Tryz.func15 rfl rfl [(0, .p (slI p0))] [] ?_
 intro cx hnt
 refine Sq (RK hnt (.no :: []) [(0, .p (slI p0))] [] tv ?_)
 refine Sq (RK hnt (nn 4 []) [(2, pB (decide (((p0.length : Nat) : Int) ≤ 600)))] [] tv ?_)
 obtain rfl := sj hm
 exact DW.ret (retK [] [] (pB (decide (((p0.length : Nat) : Int) ≤ 600))))
abbrev o2 (ks : List Nat) (b : Bool) (RES : Bool) : Orc := .call 15 ks b (pB RES) [] []

abbrev c5e1 := ({ id := 1, parent := 0, name := ByteArray.empty, control := 0, kind := 0, owner := 0 } : Node)
theorem New_ref5Spec (RES : Tree) (hm : New_ref5 = some RES) : Spec Tryz.prog 121 [] [] (.agg [ow 0 RES.nodes.length, pI RES.next]) [] [roNode RES.nodes] := by
 unfold New_ref5 at hm
 refine SO Tryz.func121 rfl rfl [] [] ?_
 intro cx hnt
 refine Sq (RK hnt (.no :: []) [(0, rr 1000)] [(1000, bx [.p (.sl .nil 0 0 (fun _ => [])), pI 0])] tv ?_)
 refine Sq (RN hnt (nn 4 []) [(0, rr 1000)] [(1000, bx [ow 1016 [(c5e1)].length, pI 2]), (1016, ob0 (roNode [(c5e1)]))] [] [(1000, .box [ow 1016 1, pI 2]), (1016, .row 6 1 (cut 6 [vi 1, vi 0, vs ByteArray.empty, vi 0, vi 0, vi 0]))] tv (by kernel_rfl) .nil (.cons rfl (.box (.cons (MLe.ownLen (enc := encNode) (d := dNode) (f := (cut 6 [vi 1, vi 0, vs ByteArray.empty, vi 0, vi 0, vi 0])) (RowIs.lit (enc := encNode) (d := dNode) (n := 1) (f := (cut 6 [vi 1, vi 0, vs ByteArray.empty, vi 0, vi 0, vi 0])) [(c5e1)] rfl (fun | 0, _ => rfl | n + 1, h => absurd h (by omega)))) (.cons .rfl .nil))) (.cons rfl (BLe.typed (RowIs.lit (enc := encNode) (d := dNode) (n := 1) (f := (cut 6 [vi 1, vi 0, vs ByteArray.empty, vi 0, vi 0, vi 0])) [(c5e1)] rfl (fun | 0, _ => rfl | n + 1, h => absurd h (by omega)))) .nil)) ?_)
 obtain rfl := sj hm
 exact DW.ret (retK [roNode [(c5e1)]] [1016] (.agg [ow 0 [(c5e1)].length, pI 2]))
abbrev o5 (ks : List Nat) (b : Bool) (RES : Tree) : Orc := .call 121 ks b (.agg [ow 0 RES.nodes.length, pI RES.next]) [] [roNode RES.nodes]

theorem New_ref6Spec (RES : Hierarchy) (hm : New_ref6 = some RES) : Spec Tryz.prog 70 [] [] (.agg [ow 0 RES.tree.nodes.length, pI RES.tree.next, ow 1 RES.tasks.length, pI RES.next]) [] [roNode RES.tree.nodes, roTask RES.tasks] := by
 unfold New_ref6 at hm
 refine SO Tryz.func70 rfl rfl [] [] ?_
 intro cx hnt
 refine Sq (RK hnt (.no :: []) [(0, rr 1000)] [(1000, bx [.p (.sl .nil 0 0 (fun _ => [])), pI 0, .p (.sl .nil 0 0 (fun _ => [])), pI 0])] tv ?_)
 obtain ⟨r1, hr1, hm⟩ := bo hm
 refine Sq (RK hnt (o5 [] true r1 :: nn 2 []) [(0, rr 1000)] [(1000, bx [ow 1008 r1.nodes.length, pI r1.next, .p (.sl .nil 0 0 (fun _ => [])), pI 1]), (1008, ob0 (roNode r1.nodes))] (an (New_ref5Spec r1 hr1) tv) ?_)
 refine DW.cv [] [] [] [(1000, bx [ow 1008 r1.nodes.length, pI r1.next, ow 100000 0, pI 1]), (100000, ob0 (roTask []))] (Conv.ads [(.o 1000 2, 100000, 4, elems encTask dTask [])]) ?_
 obtain rfl := sj hm
 exact DW.ret (retK [roNode r1.nodes, roTask []] [1008, 100000] (.agg [ow 0 r1.nodes.length, pI r1.next, ow 1 0, pI 1]))
abbrev o4 (ks : List Nat) (b : Bool) (RES : Hierarchy) : Orc := .call 70 ks b (.agg [ow 0 RES.tree.nodes.length, pI RES.tree.next, ow 1 RES.tasks.length, pI RES.next]) [] [roNode RES.tree.nodes, roTask RES.tasks]

theorem root_treeSpec (p0 : Node) (RES : Bool) (hm : root_tree p0 = some RES) : Spec Tryz.prog 149 [.p (.agg (encNode p0))] [] (pB RES) [] [] := by
 unfold root_tree at hm
 refine SO Tryz.func149 rfl rfl [(0, .p (.agg (encNode p0)))] [] ?_
 intro cx hnt
 refine Sq (RK hnt (nn 2 []) [(1, rr 1008)] [(1008, bx (pm (encNode p0)))] tv ?_)
 refine Sq (DW.regJ (sl2 := [(2, pB ((((p0.id == 1) && (p0.parent == 0)) && (beqS p0.name ByteArray.empty)) && (p0.kind == 0)))]) (ob2 := []) ?_ ?_)
 ·rcases bt (p0.id == 1) with h1 | h1
  ·rcases bt (p0.parent == 0) with h2 | h2
   ·rcases bt (beqS p0.name ByteArray.empty) with h3 | h3
    ·exact RT hnt (nn 7 (pT :: nn 4 (pT :: nn 4 (pT :: .no :: [])))) [(2, pB (p0.kind == 0))] (an4 h1 (an4 h2 (an4 h3 tv))) (by kernel_rfl) (.cons rfl (.of_eq (by rw [h1, h2, h3]; try rfl)) .nil)
    ·exact RT hnt (nn 7 (pT :: nn 4 (pT :: .no :: sk 3 (pF :: .no :: [])))) [(2, pB false)] (an4 h1 (an4 h2 (an4 h3 tv))) (by kernel_rfl) (.cons rfl (.of_eq (by rw [h1, h2, h3]; try rfl)) .nil)
   ·exact RT hnt (nn 7 (pT :: .no :: sk 3 (pF :: .no :: sk 3 (pF :: .no :: [])))) [(2, pB false)] (an4 h1 (an4 h2 (an4 ff tv))) (by kernel_rfl) (.cons rfl (.of_eq (by rw [h1, h2]; try rfl)) .nil)
  ·exact RT hnt (nn 4 (sk 3 (pF :: .no :: sk 3 (pF :: .no :: sk 3 (pF :: .no :: []))))) [(2, pB false)] (an4 h1 (an2 ff (an6 ff tv))) (by kernel_rfl) (.cons rfl (.of_eq (by rw [h1]; try rfl)) .nil)
 ·refine DW.ret ?_
  obtain rfl := sj hm
  exact retK [] [] (pB ((((p0.id == 1) && (p0.parent == 0)) && (beqS p0.name ByteArray.empty)) && (p0.kind == 0)))
abbrev o11 (ks : List Nat) (b : Bool) (RES : Bool) : Orc := .call 149 ks b (pB RES) [] []

theorem inner_nameSpec (p0 : Int) (RES : Bool) (hm : inner_name p0 = some RES) : Spec Tryz.prog 157 [.p (vk .u8 p0)] [] (pB RES) [] [] := by
 unfold inner_name at hm
 refine SO Tryz.func157 rfl rfl [(0, .p (vk .u8 p0))] [] ?_
 intro cx hnt
 refine Sq (RD hnt (.no :: []) [] [] [] [] tv ?_)
 refine Sq (DW.regJ (sl2 := [(2, pB ((((((decide (p0 ≥ 97)) && (decide (p0 ≤ 122))) || ((decide (p0 ≥ 65)) && (decide (p0 ≤ 90)))) || ((decide (p0 ≥ 48)) && (decide (p0 ≤ 57)))) || (p0 == 95)) || (p0 == 45)))]) (ob2 := []) ?_ ?_)
 ·rcases bt (decide (p0 ≥ 97)) with h1 | h1
  ·rcases bt (decide (p0 ≤ 122)) with h2 | h2
   ·exact RT hnt (nn 5 (pT :: .no :: sk 6 (pT :: .no :: sk 6 (pT :: .no :: sk 2 (pT :: .no :: sk 2 (pT :: .no :: [])))))) [(2, pB true)] (an3 h1 (an5 h2 (an5 tt (an6 tt tv)))) (by kernel_rfl) (.cons rfl (.of_eq (by rw [h1, h2]; try rfl)) .nil)
   ·rcases bt (decide (p0 ≥ 65)) with h3 | h3
    ·rcases bt (decide (p0 ≤ 90)) with h4 | h4
     ·exact RT hnt (nn 5 (pT :: nn 6 (pT :: pF :: .no :: sk 6 (pT :: .no :: sk 2 (pT :: .no :: sk 2 (pT :: .no :: [])))))) [(2, pB true)] (an3 h1 (an3 h2 (an2 h3 (an h2 (an h3 (an h2 (an5 h4 (an6 tt tv)))))))) (by kernel_rfl) (.cons rfl (.of_eq (by rw [h1, h2, h3, h4]; try rfl)) .nil)
     ·rcases bt (decide (p0 ≥ 48)) with h5 | h5
      ·rcases bt (decide (p0 ≤ 57)) with h6 | h6
       ·exact RT hnt (nn 5 (pT :: nn 6 (pT :: pF :: nn 6 (pT :: pF :: .no :: sk 2 (pT :: .no :: sk 2 (pT :: .no :: [])))))) [(2, pB true)] (an3 h1 (an3 h2 (an2 h3 (an h2 (an h3 (an h2 (an3 h4 (an2 h5 (an h4 (an h5 (an h4 (an3 h6 (an3 tt tv))))))))))))) (by kernel_rfl) (.cons rfl (.of_eq (by rw [h1, h2, h3, h4, h5, h6]; try rfl)) .nil)
       ·rcases bt (p0 == 95) with h7 | h7
        ·exact RT hnt (nn 5 (pT :: nn 6 (pT :: pF :: nn 6 (pT :: pF :: nn 3 (pF :: .no :: sk 2 (pT :: .no :: [])))))) [(2, pB true)] (an3 h1 (an3 h2 (an2 h3 (an h2 (an h3 (an h2 (an3 h4 (an2 h5 (an h4 (an h5 (an h4 (an3 h6 (an3 h7 tv))))))))))))) (by kernel_rfl) (.cons rfl (.of_eq (by rw [h1, h2, h3, h4, h5, h6, h7]; try rfl)) .nil)
        ·exact RT hnt (nn 5 (pT :: nn 6 (pT :: pF :: nn 6 (pT :: pF :: nn 3 (pF :: nn 3 (pF :: .no :: [])))))) [(2, pB (p0 == 45))] (an3 h1 (an3 h2 (an2 h3 (an h2 (an h3 (an h2 (an3 h4 (an2 h5 (an h4 (an h5 (an h4 (an3 h6 (an3 h7 tv))))))))))))) (by kernel_rfl) (.cons rfl (.of_eq (by rw [h1, h2, h3, h4, h5, h6, h7]; try rfl)) .nil)
      ·rcases bt (p0 == 95) with h8 | h8
       ·exact RT hnt (nn 5 (pT :: nn 6 (pT :: pF :: nn 4 (sk 2 (pF :: pF :: nn 3 (pF :: .no :: sk 2 (pT :: .no :: []))))))) [(2, pB true)] (an3 h1 (an3 h2 (an2 h3 (an h2 (an h3 (an h2 (an3 h4 (an2 h5 (an h4 (an h5 (an h4 (an3 ff (an3 h8 tv))))))))))))) (by kernel_rfl) (.cons rfl (.of_eq (by rw [h1, h2, h3, h4, h5, h8]; try rfl)) .nil)
       ·exact RT hnt (nn 5 (pT :: nn 6 (pT :: pF :: nn 4 (sk 2 (pF :: pF :: nn 3 (pF :: nn 3 (pF :: .no :: []))))))) [(2, pB (p0 == 45))] (an3 h1 (an3 h2 (an2 h3 (an h2 (an h3 (an h2 (an3 h4 (an2 h5 (an h4 (an h5 (an h4 (an3 ff (an3 h8 tv))))))))))))) (by kernel_rfl) (.cons rfl (.of_eq (by rw [h1, h2, h3, h4, h5, h8]; try rfl)) .nil)
    ·rcases bt (decide (p0 ≥ 48)) with h9 | h9
     ·rcases bt (decide (p0 ≤ 57)) with h10 | h10
      ·exact RT hnt (nn 5 (pT :: nn 4 (sk 2 (pF :: pF :: nn 6 (pT :: pF :: .no :: sk 2 (pT :: .no :: sk 2 (pT :: .no :: []))))))) [(2, pB true)] (an3 h1 (an3 h2 (an2 h3 (an h2 (an h3 (an h2 (an3 ff (an2 h9 (an ff (an h9 (an ff (an3 h10 (an3 tt tv))))))))))))) (by kernel_rfl) (.cons rfl (.of_eq (by rw [h1, h2, h3, h9, h10]; try rfl)) .nil)
      ·rcases bt (p0 == 95) with h11 | h11
       ·exact RT hnt (nn 5 (pT :: nn 4 (sk 2 (pF :: pF :: nn 6 (pT :: pF :: nn 3 (pF :: .no :: sk 2 (pT :: .no :: []))))))) [(2, pB true)] (an3 h1 (an3 h2 (an2 h3 (an h2 (an h3 (an h2 (an3 ff (an2 h9 (an ff (an h9 (an ff (an3 h10 (an3 h11 tv))))))))))))) (by kernel_rfl) (.cons rfl (.of_eq (by rw [h1, h2, h3, h9, h10, h11]; try rfl)) .nil)
       ·exact RT hnt (nn 5 (pT :: nn 4 (sk 2 (pF :: pF :: nn 6 (pT :: pF :: nn 3 (pF :: nn 3 (pF :: .no :: []))))))) [(2, pB (p0 == 45))] (an3 h1 (an3 h2 (an2 h3 (an h2 (an h3 (an h2 (an3 ff (an2 h9 (an ff (an h9 (an ff (an3 h10 (an3 h11 tv))))))))))))) (by kernel_rfl) (.cons rfl (.of_eq (by rw [h1, h2, h3, h9, h10, h11]; try rfl)) .nil)
     ·rcases bt (p0 == 95) with h12 | h12
      ·exact RT hnt (nn 5 (pT :: nn 4 (sk 2 (pF :: pF :: nn 4 (sk 2 (pF :: pF :: nn 3 (pF :: .no :: sk 2 (pT :: .no :: [])))))))) [(2, pB true)] (an3 h1 (an3 h2 (an2 h3 (an h2 (an h3 (an h2 (an3 ff (an2 h9 (an ff (an h9 (an4 ff (an3 h12 tv)))))))))))) (by kernel_rfl) (.cons rfl (.of_eq (by rw [h1, h2, h3, h9, h12]; try rfl)) .nil)
      ·exact RT hnt (nn 5 (pT :: nn 4 (sk 2 (pF :: pF :: nn 4 (sk 2 (pF :: pF :: nn 3 (pF :: nn 3 (pF :: .no :: [])))))))) [(2, pB (p0 == 45))] (an3 h1 (an3 h2 (an2 h3 (an h2 (an h3 (an h2 (an3 ff (an2 h9 (an ff (an h9 (an4 ff (an3 h12 tv)))))))))))) (by kernel_rfl) (.cons rfl (.of_eq (by rw [h1, h2, h3, h9, h12]; try rfl)) .nil)
  ·rcases bt (decide (p0 ≥ 65)) with h13 | h13
   ·rcases bt (decide (p0 ≤ 90)) with h14 | h14
    ·exact RT hnt (nn 3 (sk 2 (pF :: nn 6 (pT :: pF :: .no :: sk 6 (pT :: .no :: sk 2 (pT :: .no :: sk 2 (pT :: .no :: []))))))) [(2, pB true)] (an3 h1 (an3 ff (an2 h13 (an ff (an h13 (an ff (an5 h14 (an6 tt tv)))))))) (by kernel_rfl) (.cons rfl (.of_eq (by rw [h1, h13, h14]; try rfl)) .nil)
    ·rcases bt (decide (p0 ≥ 48)) with h15 | h15
     ·rcases bt (decide (p0 ≤ 57)) with h16 | h16
      ·exact RT hnt (nn 3 (sk 2 (pF :: nn 6 (pT :: pF :: nn 6 (pT :: pF :: .no :: sk 2 (pT :: .no :: sk 2 (pT :: .no :: []))))))) [(2, pB true)] (an3 h1 (an3 ff (an2 h13 (an ff (an h13 (an ff (an3 h14 (an2 h15 (an h14 (an h15 (an h14 (an3 h16 (an3 tt tv))))))))))))) (by kernel_rfl) (.cons rfl (.of_eq (by rw [h1, h13, h14, h15, h16]; try rfl)) .nil)
      ·rcases bt (p0 == 95) with h17 | h17
       ·exact RT hnt (nn 3 (sk 2 (pF :: nn 6 (pT :: pF :: nn 6 (pT :: pF :: nn 3 (pF :: .no :: sk 2 (pT :: .no :: []))))))) [(2, pB true)] (an3 h1 (an3 ff (an2 h13 (an ff (an h13 (an ff (an3 h14 (an2 h15 (an h14 (an h15 (an h14 (an3 h16 (an3 h17 tv))))))))))))) (by kernel_rfl) (.cons rfl (.of_eq (by rw [h1, h13, h14, h15, h16, h17]; try rfl)) .nil)
       ·exact RT hnt (nn 3 (sk 2 (pF :: nn 6 (pT :: pF :: nn 6 (pT :: pF :: nn 3 (pF :: nn 3 (pF :: .no :: []))))))) [(2, pB (p0 == 45))] (an3 h1 (an3 ff (an2 h13 (an ff (an h13 (an ff (an3 h14 (an2 h15 (an h14 (an h15 (an h14 (an3 h16 (an3 h17 tv))))))))))))) (by kernel_rfl) (.cons rfl (.of_eq (by rw [h1, h13, h14, h15, h16, h17]; try rfl)) .nil)
     ·rcases bt (p0 == 95) with h18 | h18
      ·exact RT hnt (nn 3 (sk 2 (pF :: nn 6 (pT :: pF :: nn 4 (sk 2 (pF :: pF :: nn 3 (pF :: .no :: sk 2 (pT :: .no :: [])))))))) [(2, pB true)] (an3 h1 (an3 ff (an2 h13 (an ff (an h13 (an ff (an3 h14 (an2 h15 (an h14 (an h15 (an h14 (an3 ff (an3 h18 tv))))))))))))) (by kernel_rfl) (.cons rfl (.of_eq (by rw [h1, h13, h14, h15, h18]; try rfl)) .nil)
      ·exact RT hnt (nn 3 (sk 2 (pF :: nn 6 (pT :: pF :: nn 4 (sk 2 (pF :: pF :: nn 3 (pF :: nn 3 (pF :: .no :: [])))))))) [(2, pB (p0 == 45))] (an3 h1 (an3 ff (an2 h13 (an ff (an h13 (an ff (an3 h14 (an2 h15 (an h14 (an h15 (an h14 (an3 ff (an3 h18 tv))))))))))))) (by kernel_rfl) (.cons rfl (.of_eq (by rw [h1, h13, h14, h15, h18]; try rfl)) .nil)
   ·rcases bt (decide (p0 ≥ 48)) with h19 | h19
    ·rcases bt (decide (p0 ≤ 57)) with h20 | h20
     ·exact RT hnt (nn 3 (sk 2 (pF :: nn 4 (sk 2 (pF :: pF :: nn 6 (pT :: pF :: .no :: sk 2 (pT :: .no :: sk 2 (pT :: .no :: [])))))))) [(2, pB true)] (an3 h1 (an3 ff (an2 h13 (an ff (an h13 (an4 ff (an2 h19 (an ff (an h19 (an ff (an3 h20 (an3 tt tv)))))))))))) (by kernel_rfl) (.cons rfl (.of_eq (by rw [h1, h13, h19, h20]; try rfl)) .nil)
     ·rcases bt (p0 == 95) with h21 | h21
      ·exact RT hnt (nn 3 (sk 2 (pF :: nn 4 (sk 2 (pF :: pF :: nn 6 (pT :: pF :: nn 3 (pF :: .no :: sk 2 (pT :: .no :: [])))))))) [(2, pB true)] (an3 h1 (an3 ff (an2 h13 (an ff (an h13 (an4 ff (an2 h19 (an ff (an h19 (an ff (an3 h20 (an3 h21 tv)))))))))))) (by kernel_rfl) (.cons rfl (.of_eq (by rw [h1, h13, h19, h20, h21]; try rfl)) .nil)
      ·exact RT hnt (nn 3 (sk 2 (pF :: nn 4 (sk 2 (pF :: pF :: nn 6 (pT :: pF :: nn 3 (pF :: nn 3 (pF :: .no :: [])))))))) [(2, pB (p0 == 45))] (an3 h1 (an3 ff (an2 h13 (an ff (an h13 (an4 ff (an2 h19 (an ff (an h19 (an ff (an3 h20 (an3 h21 tv)))))))))))) (by kernel_rfl) (.cons rfl (.of_eq (by rw [h1, h13, h19, h20, h21]; try rfl)) .nil)
    ·rcases bt (p0 == 95) with h22 | h22
     ·exact RT hnt (nn 3 (sk 2 (pF :: nn 4 (sk 2 (pF :: pF :: nn 4 (sk 2 (pF :: pF :: nn 3 (pF :: .no :: sk 2 (pT :: .no :: []))))))))) [(2, pB true)] (an3 h1 (an3 ff (an2 h13 (an ff (an h13 (an4 ff (an2 h19 (an ff (an h19 (an4 ff (an3 h22 tv))))))))))) (by kernel_rfl) (.cons rfl (.of_eq (by rw [h1, h13, h19, h22]; try rfl)) .nil)
     ·exact RT hnt (nn 3 (sk 2 (pF :: nn 4 (sk 2 (pF :: pF :: nn 4 (sk 2 (pF :: pF :: nn 3 (pF :: nn 3 (pF :: .no :: []))))))))) [(2, pB (p0 == 45))] (an3 h1 (an3 ff (an2 h13 (an ff (an h13 (an4 ff (an2 h19 (an ff (an h19 (an4 ff (an3 h22 tv))))))))))) (by kernel_rfl) (.cons rfl (.of_eq (by rw [h1, h13, h19, h22]; try rfl)) .nil)
 ·refine DW.ret ?_
  obtain rfl := sj hm
  exact retK [] [] (pB ((((((decide (p0 ≥ 97)) && (decide (p0 ≤ 122))) || ((decide (p0 ≥ 65)) && (decide (p0 ≤ 90)))) || ((decide (p0 ≥ 48)) && (decide (p0 ≤ 57)))) || (p0 == 95)) || (p0 == 45)))
abbrev o14 (ks : List Nat) (b : Bool) (RES : Bool) : Orc := .call 157 ks b (pB RES) [] []

theorem Valid_nameSpec (p0 : ByteArray) (RES : Bool) (hm : Valid_name p0 = some RES) : Spec Tryz.prog 125 [pS p0] [] (pB RES) [] [] := by
 unfold Valid_name at hm
 refine SO Tryz.func125 rfl rfl [(0, pS p0)] [] ?_
 intro cx hnt
 refine Sq (RK hnt (.no :: []) [(0, pS p0)] [] tv ?_)
 refine Sq (Sq (RN hnt (nn 4 []) [(0, pS p0), (6, .p (slOf 1 (encK .u8) 0 (bytesL p0))), (7, pI ((p0.size : Nat) : Int)), (8, pI 0)] [] [(6, .p (.sl .unk 1 p0.size (bytesF p0)))] [] tv (by kernel_rfl) (.cons rfl (MLe.typed RowIs.bytes) .nil) .nil ?_))
 refine Bk ?_
 obtain ⟨hc1, hm⟩ := go1 hm
 refine DW.rangeO (fun (k1 : Nat) (s1 : Unit) => mkSt [(0, pS p0), (6, .p (slOf 1 (encK .u8) 0 (bytesL p0))), (7, pI ((p0.size : Nat) : Int)), (8, pI ((k1 : Nat) : Int))] []) 0 hm .refl ?_
 intro k1 s1 n1 hk1 hs1 he1
 refine Sq (RD hnt (.no :: []) [] [(9, pB (decide (((k1 : Nat) : Int) < ((p0.size : Nat) : Int))))] [] [] tv ?_)
 refine Sq (condK (decide (((k1 : Nat) : Int) < ((p0.size : Nat) : Int))) ?_ ?_)
 ·intro h15
  have hlt1 : k1 < (bytesL p0).length := by have := of_decide_eq_true h15; have := bytesL_length p0; omega
  have hm := hs1 hlt1
  unfold Valid_nameL1 at hm
  refine Sk ?_
  refine Sq (Bk ?_)
  refine Sq (RD hnt (nn 3 []) [9] [(4, .p (vk .u8 ((bytesL p0).getD k1 0)))] [] [] (an (nn0 k1) (an (ltc hlt1) tv)) ?_)
  obtain ⟨r16, hr16, hm⟩ := bo hm
  refine Sq (RD hnt (.no :: o14 [] true r16 :: .no :: []) [4] [(14, pB (!r16))] [] [] (an (inner_nameSpec ((bytesL p0).getD k1 0) r16 hr16) tv) ?_)
  refine condM hm ?_ ?_
  ·intro h17 hm
   refine Sq (RK hnt (.no :: []) [(2, pB false)] [] tv ?_)
   obtain rfl := sj hm
   exact DW.ret (retK [] [] (pB false))
  ·intro h17 hm
   refine Sk ?_
   refine DW.done ?_
   show DW _ _ _ _ _
   refine RD hnt (nn 2 []) [14] [(8, pI (w64 (((k1 : Nat) : Int) + 1)))] [] [] tv ?_
   exact jD () ⟨hlt1, hm⟩ (Conv.tp [(8, pI (w64 (((k1 : Nat) : Int) + 1)))] [] (by kernel_rfl) (.cons rfl (.of_eq (congrArg pI (w64_succ hlt1 hc1))) .nil) .nil)
 ·intro h15
  have hge1 : ¬ k1 < (bytesL p0).length := by have := of_decide_eq_false h15; have := bytesL_length p0; omega
  have hm := he1 hge1
  unfold Valid_nameD1 at hm
  refine DW.exit ?_
  refine joinQ_exit ?_
  refine KQ_exit ?_
  refine blockQ_exit ?_
  show DW _ _ _ _ _
  refine Sq ?_
  refine Jn (ι := Bool) (fun (y3 : Bool) => mkSt [(2, pB y3)] []) (fun y3 => Valid_nameJ3 y3 = some RES) ?_ ?_
  ·intro y3 hm
   unfold Valid_nameJ3 at hm
   obtain rfl := sj hm
   exact DW.ret (retK [] [] (pB y3))
  ·rcases bt (!(beqS p0 ByteArray.empty)) with h18 | h18
   ·replace hm := if_t h18 hm
    rcases bt (decide (((p0.size : Nat) : Int) ≤ 32)) with h19 | h19
    ·replace hm := if_t h19 hm
     obtain ⟨g20, hm⟩ := go1 hm
     refine RK hnt (nn 6 (pT :: nn 4 (pT :: .no :: []))) [(2, pB ((((byteAt p0 0) : Nat) : Int) != 45))] [] (an4 h18 (an2 h19 (an (nn0 0) (an (ltc g20) (an2 h19 tv))))) ?_
     exact jD ((((byteAt p0 0) : Nat) : Int) != 45) hm .refl
    ·replace hm := if_f h19 hm
     refine RK hnt (nn 6 (pT :: .no :: sk 3 (pF :: .no :: []))) [(2, pB false)] [] (an4 h18 (an4 h19 tv)) ?_
     exact jD false hm .refl
   ·replace hm := if_f h18 hm
    refine RK hnt (nn 3 (sk 3 (pF :: .no :: sk 3 (pF :: .no :: [])))) [(2, pB false)] [] (an4 h18 (an4 ff tv)) ?_
    exact jD false hm .refl
abbrev o13 (ks : List Nat) (b : Bool) (RES : Bool) : Orc := .call 125 ks b (pB RES) [] []

abbrev c12e1 (p0 : List Node) (k1 : Nat) := (p0.getD k1 (default : Node))
abbrev c12e2 (p1 : Node) : Nat × Obj := (1024, bx (pm (encNode p1)))
theorem fine_treeSpec (p0 : List Node) (p1 : Node) (RES : Bool) (hm : fine_tree p0 p1 = some RES) : Spec Tryz.prog 150 [.p (slNode p0), .p (.agg (encNode p1))] [] (pB RES) [] [] := by
 unfold fine_tree at hm
 refine SO Tryz.func150 rfl rfl [(0, .p (slNode p0)), (1, .p (.agg (encNode p1)))] [] ?_
 intro cx hnt
 refine Sq (RD hnt (nn 2 []) [1] [(3, rr 1024)] [] [(c12e2 p1)] tv ?_)
 obtain ⟨g1, hm⟩ := go1 hm
 refine Sq (Sq ?_)
 refine Jn (ι := Bool) (fun (y1 : Bool) => mkSt [(0, .p (slNode p0)), (3, rr 1024), (33, pB y1)] [(c12e2 p1)]) (fun y1 => (fine_treeJ1 p0 p1) y1 = some RES) ?_ ?_
 ·intro y1 hm
  unfold fine_treeJ1 at hm
  refine condM hm ?_ ?_
  ·intro h6 hm
   refine Sq (RK hnt (.no :: []) [(4, pB false)] [] tv ?_)
   obtain rfl := sj hm
   exact DW.ret (retK [] [] (pB false))
  ·intro h6 hm
   refine Sk ?_
   refine Sq (RD hnt (.no :: []) [33] [(5, pB false)] [] [] tv ?_)
   refine Sq (Sq (RD hnt (nn 3 []) [0] [(34, .p (slNode p0)), (35, pI ((p0.length : Nat) : Int)), (36, pI 0)] [] [] tv ?_))
   refine Bk ?_
   obtain ⟨hc1, hm⟩ := go1 hm
   refine DW.rangeO (fun (k1 : Nat) (s1 : Bool) => mkSt [(3, rr 1024), (5, pB s1), (34, .p (slNode p0)), (35, pI ((p0.length : Nat) : Int)), (36, pI ((k1 : Nat) : Int))] [(c12e2 p1)]) dNode hm Conv.eqK ?_
   intro k1 s1 n1 hk1 hs1 he1
   refine Sq (RD hnt (.no :: []) [] [(37, pB (decide (((k1 : Nat) : Int) < ((p0.length : Nat) : Int))))] [] [] tv ?_)
   refine Sq (condK (decide (((k1 : Nat) : Int) < ((p0.length : Nat) : Int))) ?_ ?_)
   ·intro h16
    have hlt1 : k1 < p0.length := by have := of_decide_eq_true h16; omega
    have hm := hs1 hlt1
    unfold fine_treeL1 at hm
    refine Sk ?_
    refine Sq (Bk ?_)
    refine Sq (RD hnt (nn 4 []) [37] [(7, rr 1056)] [] [(1056, bx (pm (encNode (c12e1 p0 k1))))] (an (nn0 k1) (an (ltc hlt1) tv)) ?_)
    refine Sq (DW.regJ (sl2 := [(3, rr 1024), (5, pB (s1 || ((c12e1 p0 k1).id == p1.parent))), (7, rr 1056), (34, .p (slNode p0)), (35, pI ((p0.length : Nat) : Int)), (36, pI ((k1 : Nat) : Int))]) (ob2 := [(c12e2 p1), (1056, bx (pm (encNode (c12e1 p0 k1))))]) ?_ ?_)
    ·rcases bt s1 with h17 | h17
     ·exact RT hnt (nn 2 (sk 5 (pT :: .no :: []))) [(5, pB true)] (an6 h17 tv) (by kernel_rfl) (.cons rfl (.of_eq (by rw [h17]; try rfl)) .nil)
     ·exact RT hnt (nn 7 (pF :: .no :: [])) [(5, pB ((c12e1 p0 k1).id == p1.parent))] (an6 h17 tv) (by kernel_rfl) (.cons rfl (.of_eq (by rw [h17]; try rfl)) .nil)
    ·refine Sq (DW.regJ (sl2 := [(3, rr 1024), (5, pB (s1 || ((c12e1 p0 k1).id == p1.parent))), (34, .p (slNode p0)), (35, pI ((p0.length : Nat) : Int)), (36, pI ((k1 : Nat) : Int)), (59, pB (((c12e1 p0 k1).parent == p1.parent) && (beqS (c12e1 p0 k1).name p1.name)))]) (ob2 := [(c12e2 p1)]) ?_ ?_)
     ·rcases bt ((c12e1 p0 k1).parent == p1.parent) with h18 | h18
      ·exact RT hnt (nn 11 (pT :: [])) [(59, pB (beqS (c12e1 p0 k1).name p1.name))] (an6 h18 tv) (by kernel_rfl) (.cons rfl (.of_eq (by rw [h18]; try rfl)) .nil)
      ·exact RT hnt (nn 6 (sk 5 (pF :: []))) [(59, pB false)] (an6 h18 tv) (by kernel_rfl) (.cons rfl (.of_eq (by rw [h18]; try rfl)) .nil)
     ·refine condM hm ?_ ?_
      ·intro h19 hm
       refine Sq (RK hnt (.no :: []) [(4, pB false)] [] tv ?_)
       obtain rfl := sj hm
       exact DW.ret (retK [] [] (pB false))
      ·intro h19 hm
       refine Sk ?_
       refine DW.done ?_
       show DW _ _ _ _ _
       refine RD hnt (nn 2 []) [59] [(36, pI (w64 (((k1 : Nat) : Int) + 1)))] [] [] tv ?_
       exact jD (s1 || ((c12e1 p0 k1).id == p1.parent)) ⟨hlt1, hm⟩ (Conv.tp [(36, pI (w64 (((k1 : Nat) : Int) + 1)))] [] (by kernel_rfl) (.cons rfl (.of_eq (congrArg pI (w64_succ hlt1 hc1))) .nil) .nil)
   ·intro h16
    have hge1 : ¬ k1 < p0.length := by have := of_decide_eq_false h16; omega
    have hm := he1 hge1
    unfold fine_treeD1 at hm
    refine DW.exit ?_
    refine joinQ_exit ?_
    refine KQ_exit ?_
    refine blockQ_exit ?_
    show DW _ _ _ _ _
    refine Sq (RK hnt (nn 2 []) [(4, pB s1)] [] tv ?_)
    obtain rfl := sj hm
    exact DW.ret (retK [] [] (pB s1))
 ·rcases bt (decide (p1.id ≤ (p0.getD (Int.toNat (w64 (((p0.length : Nat) : Int) - 1))) dNode).id)) with h2 | h2
  ·replace hm := if_t h2 hm
   refine RD hnt (nn 11 (sk 4 (pT :: .no :: sk 8 (pT :: [])))) [] [(33, pB true)] [] [] (an g1.1 (an g1.2 (an5 h2 (an6 tt tv)))) ?_
   exact jD true hm Conv.eqK
  ·replace hm := if_f h2 hm
   obtain ⟨r3, hr3, hm⟩ := bo hm
   rcases bt (!r3) with h4 | h4
   ·replace hm := if_t h4 hm
    refine RD hnt (nn 13 (o13 [] true r3 :: .no :: pF :: .no :: sk 8 (pT :: []))) [] [(33, pB true)] [] [] (an g1.1 (an g1.2 (an3 h2 (an (Valid_nameSpec p1.name r3 hr3) (an2 h2 (an6 h4 tv)))))) ?_
    exact jD true hm Conv.eqK
   ·replace hm := if_f h4 hm
    rcases bt (p1.kind != 0) with h5 | h5
    ·replace hm := if_t h5 hm
     refine RD hnt (nn 13 (o13 [] true r3 :: .no :: pF :: nn 8 (pT :: pF :: []))) [] [(33, pB (p1.kind != 1))] [] [] (an g1.1 (an g1.2 (an3 h2 (an (Valid_nameSpec p1.name r3 hr3) (an2 h2 (an4 h4 (an3 h5 (an h4 (an h5 (an h4 tv)))))))))) ?_
     exact jD (p1.kind != 1) hm Conv.eqK
    ·replace hm := if_f h5 hm
     refine RD hnt (nn 13 (o13 [] true r3 :: .no :: pF :: nn 5 (sk 3 (pF :: pF :: [])))) [] [(33, pB false)] [] [] (an g1.1 (an g1.2 (an3 h2 (an (Valid_nameSpec p1.name r3 hr3) (an2 h2 (an4 h4 (an3 h5 (an h4 (an h5 (an h4 tv)))))))))) ?_
     exact jD false hm Conv.eqK
abbrev o12 (ks : List Nat) (b : Bool) (RES : Bool) : Orc := .call 150 ks b (pB RES) [] []

abbrev c10e1 (p0 : Tree) (k1 : Nat) := (p0.nodes.getD k1 (default : Node))
abbrev c10e2 (s1 : IMap Int) (p0 : Tree) (k1 : Nat) := (s1.set (c10e1 p0 k1).id (w64 ((s1.get (c10e1 p0 k1).parent) + 1)))
abbrev c10e3 (p0 : Tree) : Nat × MV := (27, pI ((p0.nodes.length : Nat) : Int))
abbrev c10e4 (p0 : Tree) : Nat × Obj := (1008, bx (pm (encTree p0)))
theorem Check_treeSpec (p0 : Tree) (RES : Bool) (hm : Check_tree p0 = some RES) : Spec Tryz.prog 103 [.p (.agg (encTree p0))] [] (pB RES) [] [] := by
 unfold Check_tree at hm
 refine SO Tryz.func103 rfl rfl [(0, .p (.agg (encTree p0)))] [] ?_
 intro cx hnt
 refine Sq (RK hnt (nn 2 []) [(1, rr 1008)] [(c10e4 p0)] tv ?_)
 refine Sq (Sq ?_)
 refine Jn (ι := Bool) (fun (y1 : Bool) => mkSt [(1, rr 1008), (23, pB y1)] [(c10e4 p0)]) (fun y1 => (Check_treeJ1 p0) y1 = some RES) ?_ ?_
 ·intro y1 hm
  unfold Check_treeJ1 at hm
  refine condM hm ?_ ?_
  ·intro h5 hm
   refine Sq (RK hnt (.no :: []) [(2, pB false)] [] tv ?_)
   obtain rfl := sj hm
   exact DW.ret (retK [] [] (pB false))
  ·intro h5 hm
   refine Sk ?_
   refine Sq (RD hnt (nn 2 []) [23] [(3, .mref 1192 0)] [] [(1192, ob0 (mapOf vi (vi 0) (IMap.empty 0)))] tv ?_)
   refine Sq (Sq (RD hnt (nn 4 []) [] [(26, .p (slNode p0.nodes)), (c10e3 p0), (28, pI 0)] [] [] tv ?_))
   refine Bk ?_
   obtain ⟨hc1, hm⟩ := go1 hm
   refine DW.rangeO (fun (k1 : Nat) (s1 : IMap Int) => mkSt [(1, rr 1008), (3, .mref 1192 0), (26, .p (slNode p0.nodes)), (c10e3 p0), (28, pI ((k1 : Nat) : Int))] [(c10e4 p0), (1192, ob0 (mapOf vi (vi 0) s1))]) dNode hm Conv.eqK ?_
   intro k1 s1 n1 hk1 hs1 he1
   refine Sq (RD hnt (.no :: []) [] [(29, pB (decide (((k1 : Nat) : Int) < ((p0.nodes.length : Nat) : Int))))] [] [] tv ?_)
   refine Sq (condK (decide (((k1 : Nat) : Int) < ((p0.nodes.length : Nat) : Int))) ?_ ?_)
   ·intro h36
    have hlt1 : k1 < p0.nodes.length := by have := of_decide_eq_true h36; omega
    have hm := hs1 hlt1
    unfold Check_treeL1 at hm
    refine Sk ?_
    refine Sq (Bk ?_)
    refine Sq (RD hnt (nn 6 []) [29] [(4, pI ((k1 : Nat) : Int)), (5, rr 1040)] [] [(1040, bx (pm (encNode (c10e1 p0 k1))))] (an (nn0 k1) (an (ltc hlt1) tv)) ?_)
    refine Sq (Sq ?_)
    refine Jn (ι := Bool) (fun (y8 : Bool) => mkSt [(1, rr 1008), (3, .mref 1192 0), (4, pI ((k1 : Nat) : Int)), (5, rr 1040), (26, .p (slNode p0.nodes)), (c10e3 p0), (28, pI ((k1 : Nat) : Int)), (64, pB y8)] [(c10e4 p0), (1040, bx (pm (encNode (c10e1 p0 k1)))), (1192, ob0 (mapOf vi (vi 0) s1))]) (fun y8 => (Check_treeJ8 k1 (c10e1 p0 k1) s1 n1) y8 = some RES) ?_ ?_
    ·intro y8 hm
     unfold Check_treeJ8 at hm
     refine condM hm ?_ ?_
     ·intro h44 hm
      refine Sq (RK hnt (.no :: []) [(2, pB false)] [] tv ?_)
      obtain rfl := sj hm
      exact DW.ret (retK [] [] (pB false))
     ·intro h44 hm
      refine Sk ?_
      refine Sq (Sq (RD hnt (nn 2 []) [4, 64] [(66, pB (decide (((k1 : Nat) : Int) > 0)))] [] [] tv ?_))
      refine Jn (ι := IMap Int) (fun (y9 : IMap Int) => mkSt [(1, rr 1008), (3, .mref 1192 0), (5, rr 1040), (26, .p (slNode p0.nodes)), (c10e3 p0), (28, pI ((k1 : Nat) : Int))] [(c10e4 p0), (1040, bx (pm (encNode (c10e1 p0 k1)))), (1192, ob0 (mapOf vi (vi 0) y9))]) (fun y9 => (Check_treeJ9 (c10e1 p0 k1) n1) y9 = some RES) ?_ ?_
      ·intro y9 hm
       unfold Check_treeJ9 at hm
       refine Sq (RD hnt (nn 5 []) [5] [(79, pB (decide ((y9.get (c10e1 p0 k1).id) > 8)))] [1040] [] (an (rfl : vi 0 = vi 0) tv) ?_)
       refine condM hm ?_ ?_
       ·intro h46 hm
        refine Sq (RK hnt (.no :: []) [(2, pB false)] [] tv ?_)
        obtain rfl := sj hm
        exact DW.ret (retK [] [] (pB false))
       ·intro h46 hm
        refine Sk ?_
        refine DW.done ?_
        show DW _ _ _ _ _
        refine RD hnt (nn 2 []) [79] [(28, pI (w64 (((k1 : Nat) : Int) + 1)))] [] [] tv ?_
        exact jD y9 ⟨hlt1, hm⟩ (Conv.tp [(28, pI (w64 (((k1 : Nat) : Int) + 1)))] [] (by kernel_rfl) (.cons rfl (.of_eq (congrArg pI (w64_succ hlt1 hc1))) .nil) .nil)
      ·refine condM hm ?_ ?_
       ·intro h45 hm
        refine RD hnt (nn 8 (.asM (c10e2 s1 p0 k1).has (fun j => vi ((c10e2 s1 p0 k1).get j)) :: [])) [66] [] [] [(1192, ob0 (mapOf vi (vi 0) (c10e2 s1 p0 k1)))] (an (rfl : vi 0 = vi 0) (an (mset_has s1 (c10e1 p0 k1).id (w64 ((s1.get (c10e1 p0 k1).parent) + 1))) (an (mset_get vi s1 (c10e1 p0 k1).id (w64 ((s1.get (c10e1 p0 k1).parent) + 1))) tv))) ?_
        exact jD (c10e2 s1 p0 k1) hm Conv.eqK
       ·intro h45 hm
        refine Sk ?_
        exact jD s1 hm Conv.t0
    ·rcases bt (decide ((c10e1 p0 k1).control < 0)) with h37 | h37
     ·replace hm := if_t h37 hm
      refine RD hnt (nn 4 (sk 4 (pT :: .no :: sk 3 (pT :: .no :: sk 3 (pT :: .no :: sk 11 (pT :: [])))))) [] [(64, pB true)] [] [] (an5 h37 (an tt (an6 tt (an6 tt tv)))) ?_
      exact jD true hm Conv.eqK
     ·replace hm := if_f h37 hm
      rcases bt ((kandNot .i64 (c10e1 p0 k1).control 31) != 0) with h38 | h38
      ·replace hm := if_t h38 hm
       refine RD hnt (nn 8 (pF :: .no :: sk 3 (pT :: .no :: sk 3 (pT :: .no :: sk 11 (pT :: []))))) [] [(64, pB true)] [] [] (an5 h37 (an4 h38 (an3 tt (an6 tt tv)))) ?_
       exact jD true hm Conv.eqK
      ·replace hm := if_f h38 hm
       rcases bt (decide ((c10e1 p0 k1).owner < 0)) with h39 | h39
       ·replace hm := if_t h39 hm
        refine RD hnt (nn 8 (pF :: nn 4 (pF :: .no :: sk 3 (pT :: .no :: sk 11 (pT :: []))))) [] [(64, pB true)] [] [] (an5 h37 (an4 h38 (an4 h39 (an5 tt tv)))) ?_
        exact jD true hm Conv.eqK
       ·replace hm := if_f h39 hm
        rcases bt (decide ((c10e1 p0 k1).owner > 1048576)) with h40 | h40
        ·replace hm := if_t h40 hm
         refine RD hnt (nn 8 (pF :: nn 4 (pF :: nn 4 (pF :: .no :: sk 11 (pT :: []))))) [] [(64, pB true)] [] [] (an5 h37 (an4 h38 (an4 h39 (an5 h40 tv)))) ?_
         exact jD true hm Conv.eqK
        ·replace hm := if_f h40 hm
         rcases bt (decide (((k1 : Nat) : Int) > 0)) with h41 | h41
         ·replace hm := if_t h41 hm
          obtain ⟨g42, hm⟩ := go1 hm
          obtain ⟨r43, hr43, hm⟩ := bo hm
          refine RD hnt (nn 8 (pF :: nn 4 (pF :: nn 4 (pF :: nn 9 (o12 [] true r43 :: .no :: pT :: pF :: []))))) [] [(64, pB (!r43))] [] [] (an5 h37 (an4 h38 (an4 h39 (an3 h40 (an4 h41 (an (by omega : (0 : Int) ≤ 0) (an (by omega : (0 : Int) ≤ ((k1 : Nat) : Int)) (an (by omega : ((k1 : Nat) : Int) ≤ ((p0.nodes.length : Nat) : Int)) (an2 h41 (an (Spec.args (xs := [.p (.sl .unk 6 k1 (elNode p0.nodes)), .p (.agg (encNode (c10e1 p0 k1)))]) (fine_treeSpec (p0.nodes.take k1) (c10e1 p0 k1) r43 hr43) (.cons (.p (PLe.typed (RowIs.elems.take (by omega)))) (.cons .rfl .nil))) (an h41 (an h40 (an h41 (an h40 tv)))))))))))))) ?_
          exact jD (!r43) hm Conv.eqK
         ·replace hm := if_f h41 hm
          refine RD hnt (nn 8 (pF :: nn 4 (pF :: nn 4 (pF :: nn 4 (sk 7 (pF :: pF :: [])))))) [] [(64, pB false)] [] [] (an5 h37 (an4 h38 (an4 h39 (an3 h40 (an h41 (an6 h41 (an h40 (an h41 (an h40 tv))))))))) ?_
          exact jD false hm Conv.eqK
   ·intro h36
    have hge1 : ¬ k1 < p0.nodes.length := by have := of_decide_eq_false h36; omega
    have hm := he1 hge1
    unfold Check_treeD1 at hm
    refine DW.exit ?_
    refine joinQ_exit ?_
    refine KQ_exit ?_
    refine blockQ_exit ?_
    show DW _ _ _ _ _
    obtain ⟨g47, hm⟩ := go1 hm
    refine Sq ?_
    refine Jn (ι := Bool) (fun (y10 : Bool) => mkSt [(2, pB y10)] []) (fun y10 => Check_treeJ10 y10 = some RES) ?_ ?_
    ·intro y10 hm
     unfold Check_treeJ10 at hm
     obtain rfl := sj hm
     exact DW.ret (retK [] [] (pB y10))
    ·rcases bt (decide (p0.next > (p0.nodes.getD (Int.toNat (w64 (((p0.nodes.length : Nat) : Int) - 1))) dNode).id)) with h48 | h48
     ·replace hm := if_t h48 hm
      refine RK hnt (nn 16 (pT :: .no :: [])) [(2, pB (decide (p0.next ≤ 2147483648)))] [] (an g47.1 (an g47.2 (an4 h48 tv))) ?_
      exact jD (decide (p0.next ≤ 2147483648)) hm .refl
     ·replace hm := if_f h48 hm
      refine RK hnt (nn 13 (sk 3 (pF :: .no :: []))) [(2, pB false)] [] (an g47.1 (an g47.2 (an4 h48 tv))) ?_
      exact jD false hm .refl
 ·rcases bt (decide (((p0.nodes.length : Nat) : Int) < 1)) with h1 | h1
  ·replace hm := if_t h1 hm
   refine RD hnt (nn 5 (sk 4 (pT :: .no :: sk 6 (pT :: [])))) [] [(23, pB true)] [] [] (an5 h1 (an tt (an6 tt tv))) ?_
   exact jD true hm Conv.eqK
  ·replace hm := if_f h1 hm
   rcases bt (decide (((p0.nodes.length : Nat) : Int) > 64)) with h2 | h2
   ·replace hm := if_t h2 hm
    refine RD hnt (nn 9 (pF :: .no :: sk 6 (pT :: []))) [] [(23, pB true)] [] [] (an5 h1 (an h2 (an6 h2 tv))) ?_
    exact jD true hm Conv.eqK
   ·replace hm := if_f h2 hm
    obtain ⟨g3, hm⟩ := go1 hm
    obtain ⟨r4, hr4, hm⟩ := bo hm
    refine RD hnt (nn 9 (pF :: nn 5 (o11 [] true r4 :: .no :: pF :: []))) [] [(23, pB (!r4))] [] [] (an5 h1 (an3 h2 (an (nn0 0) (an (ltc g3) (an2 h2 (an (root_treeSpec (p0.nodes.getD 0 dNode) r4 hr4) (an2 h2 tv))))))) ?_
    exact jD (!r4) hm Conv.eqK
abbrev o10 (ks : List Nat) (b : Bool) (RES : Bool) : Orc := .call 103 ks b (pB RES) [] []

theorem AtFa_crewSpec (p0 : Task) (p1 : Int) (RES : Bool) (hm : AtFa_crew p0 p1 = some RES) : Spec Tryz.prog 138 [.p (.agg (encTask p0)), rr 0] [.box [pI p1]] (pB RES) [.box [pI p1]] [] := by
 unfold AtFa_crew at hm
 refine SO Tryz.func138 rfl rfl [(0, .p (.agg (encTask p0))), (1, rr 0)] [(0, bx [pI p1])] ?_
 intro cx hnt
 refine Sq (RD hnt (nn 2 []) [0] [(2, rr 1016)] [] [(1016, bx (pm (encTask p0)))] tv ?_)
 refine Sq (RK hnt (nn 5 []) [(3, pB (p0.id == p1))] [(0, bx [pI p1])] tv ?_)
 obtain rfl := sj hm
 exact DW.ret (retK [.box [pI p1]] [] (pB (p0.id == p1)))

theorem IndexFunc_slices_TaskQAtFa_crewSpec (p0 : List Task) (p1c0 : Int) (RES : Int) (hm : IndexFunc_slices_TaskQAtFa_crew p0 p1c0 = some RES) : Spec Tryz.prog 137 [.p (slTask p0), .fn 138 [rr 0]] [.box [pI p1c0]] (pI RES) [.box [pI p1c0]] [] := by
 unfold IndexFunc_slices_TaskQAtFa_crew at hm
 refine SO Tryz.func137 rfl rfl [(0, .p (slTask p0)), (1, .fn 138 [rr 0])] [(0, bx [pI p1c0])] ?_
 intro cx hnt
 refine Sq (RD hnt (.no :: []) [] [] [] [] tv ?_)
 refine Sq (Sq (RD hnt (nn 3 []) [] [(7, pI ((p0.length : Nat) : Int)), (8, pI 0)] [] [] tv ?_))
 refine Bk ?_
 obtain ⟨hc1, hm⟩ := go1 hm
 refine DW.rangeO (fun (k1 : Nat) (s1 : Unit) => mkSt [(0, .p (slTask p0)), (1, .fn 138 [rr 0]), (7, pI ((p0.length : Nat) : Int)), (8, pI ((k1 : Nat) : Int))] [(0, bx [pI p1c0])]) dTask hm Conv.eqK ?_
 intro k1 s1 n1 hk1 hs1 he1
 refine Sq (RD hnt (.no :: []) [] [(9, pB (decide (((k1 : Nat) : Int) < ((p0.length : Nat) : Int))))] [] [] tv ?_)
 refine Sq (condK (decide (((k1 : Nat) : Int) < ((p0.length : Nat) : Int))) ?_ ?_)
 ·intro h9
  have hlt1 : k1 < p0.length := by have := of_decide_eq_true h9; omega
  have hm := hs1 hlt1
  unfold IndexFunc_slices_TaskQAtFa_crewL1 at hm
  refine Sk ?_
  refine Sq (Bk ?_)
  refine Sq (RD hnt (nn 2 []) [9] [(5, pI ((k1 : Nat) : Int))] [] [] tv ?_)
  obtain ⟨r10, hr10, hm⟩ := bo hm
  refine Sq (RD hnt (nn 5 (.call 138 [0] true (pB r10) [.box [pI p1c0]] [] :: [])) [] [(16, pB r10)] [] [] (an (nn0 k1) (an (ltc hlt1) (an (AtFa_crewSpec (p0.getD k1 (default : Task)) p1c0 r10 hr10) (an tv tv)))) ?_)
  refine condM hm ?_ ?_
  ·intro h11 hm
   refine Sq (RK hnt (nn 2 []) [(4, pI ((k1 : Nat) : Int))] [(0, bx [pI p1c0])] tv ?_)
   obtain rfl := sj hm
   exact DW.ret (retK [.box [pI p1c0]] [] (pI ((k1 : Nat) : Int)))
  ·intro h11 hm
   refine Sk ?_
   refine DW.done ?_
   show DW _ _ _ _ _
   refine RD hnt (nn 2 []) [5, 16] [(8, pI (w64 (((k1 : Nat) : Int) + 1)))] [] [] tv ?_
   exact jD () ⟨hlt1, hm⟩ (Conv.tp [(8, pI (w64 (((k1 : Nat) : Int) + 1)))] [] (by kernel_rfl) (.cons rfl (.of_eq (congrArg pI (w64_succ hlt1 hc1))) .nil) .nil)
 ·intro h9
  have hge1 : ¬ k1 < p0.length := by have := of_decide_eq_false h9; omega
  have hm := he1 hge1
  unfold IndexFunc_slices_TaskQAtFa_crewD1 at hm
  refine DW.exit ?_
  refine joinQ_exit ?_
  refine KQ_exit ?_
  refine blockQ_exit ?_
  show DW _ _ _ _ _
  refine Sq (RK hnt (.no :: []) [(4, pI (-1))] [(0, bx [pI p1c0])] tv ?_)
  obtain rfl := sj hm
  exact DW.ret (retK [.box [pI p1c0]] [] (pI (-1)))

theorem At_crewSpec (p0 : Hierarchy) (p1 : Int) (RES : Int) (hm : At_crew p0 p1 = some RES) : Spec Tryz.prog 94 [.p (.agg (encHierarchy p0)), pI p1] [] (pI RES) [] [] := by
 unfold At_crew at hm
 refine SO Tryz.func94 rfl rfl [(0, .p (.agg (encHierarchy p0))), (1, pI p1)] [] ?_
 intro cx hnt
 refine Sq (RK hnt (nn 3 []) [(2, rr 1016), (3, rr 1024)] [(1016, bx (pm (encHierarchy p0))), (1024, bx [pI p1])] tv ?_)
 obtain ⟨r1, hr1, hm⟩ := bo hm
 refine Sq (RK hnt (nn 3 (.call 137 [1024] true (pI r1) [.box [pI p1]] [] :: .no :: [])) [(4, pI r1)] [] (an (IndexFunc_slices_TaskQAtFa_crewSpec p0.tasks p1 r1 hr1) (an tv tv)) ?_)
 obtain rfl := sj hm
 exact DW.ret (retK [] [] (pI r1))
abbrev o17 (ks : List Nat) (b : Bool) (RES : Int) : Orc := .call 94 ks b (pI RES) [] []

theorem Find_crewSpec (p0 : Hierarchy) (p1 : Int) (RES : Task × Bool) (hm : Find_crew p0 p1 = some RES) : Spec Tryz.prog 92 [.p (.agg (encHierarchy p0)), pI p1] [] (.p (.tup [.agg (encTask RES.1), vb RES.2])) [] [] := by
 unfold Find_crew at hm
 refine SO Tryz.func92 rfl rfl [(0, .p (.agg (encHierarchy p0))), (1, pI p1)] [] ?_
 intro cx hnt
 refine Sq (RK hnt (nn 3 []) [(1, pI p1), (2, rr 1016), (4, rr 1032)] [(1016, bx (pm (encHierarchy p0))), (1032, bx [pI 0, pI 0, pI 0, pI 0])] tv ?_)
 obtain ⟨r1, hr1, hm⟩ := bo hm
 refine Sq (RD hnt (nn 2 (o17 [] true r1 :: .no :: [])) [1] [(6, pI r1)] [] [] (an (At_crewSpec p0 p1 r1 hr1) tv) ?_)
 refine Sq (Sq (RD hnt (nn 2 []) [] [(11, pB (decide (r1 < 0)))] [] [] tv ?_))
 refine condM hm ?_ ?_
 ·intro h2 hm
  refine Sq (RD hnt (nn 3 []) [2, 6, 11] [(5, pB false)] [1016] [] tv ?_)
  obtain rfl := sj hm
  exact DW.ret (retK [] [] (.p (.tup [.agg [vi 0, vi 0, vi 0, vi 0], vb false])))
 ·intro h2 hm
  refine Sk ?_
  obtain ⟨g3, hm⟩ := go1 hm
  refine Sq (RK hnt (nn 7 []) [(4, rr 1032), (5, pB true)] [(1032, bx (pm (encTask (p0.tasks.getD (Int.toNat r1) dTask))))] (an g3.1 (an g3.2 tv)) ?_)
  obtain rfl := sj hm
  exact DW.ret (retK [] [] (.p (.tup [.agg (encTask (p0.tasks.getD (Int.toNat r1) dTask)), vb true])))
abbrev o16 (ks : List Nat) (b : Bool) (RES : Task × Bool) : Orc := .call 92 ks b (.p (.tup [.agg (encTask RES.1), vb RES.2])) [] []

theorem AtFa_forestSpec (p0 : Node) (p1 : Int) (RES : Bool) (hm : AtFa_forest p0 p1 = some RES) : Spec Tryz.prog 140 [.p (.agg (encNode p0)), rr 0] [.box [pI p1]] (pB RES) [.box [pI p1]] [] := by
 unfold AtFa_forest at hm
 refine SO Tryz.func140 rfl rfl [(0, .p (.agg (encNode p0))), (1, rr 0)] [(0, bx [pI p1])] ?_
 intro cx hnt
 refine Sq (RD hnt (nn 2 []) [0] [(2, rr 1016)] [] [(1016, bx (pm (encNode p0)))] tv ?_)
 refine Sq (RK hnt (nn 5 []) [(3, pB (p0.id == p1))] [(0, bx [pI p1])] tv ?_)
 obtain rfl := sj hm
 exact DW.ret (retK [.box [pI p1]] [] (pB (p0.id == p1)))

theorem IndexFunc_slices_NodeQAtFa_forestSpec (p0 : List Node) (p1c0 : Int) (RES : Int) (hm : IndexFunc_slices_NodeQAtFa_forest p0 p1c0 = some RES) : Spec Tryz.prog 139 [.p (slNode p0), .fn 140 [rr 0]] [.box [pI p1c0]] (pI RES) [.box [pI p1c0]] [] := by
 unfold IndexFunc_slices_NodeQAtFa_forest at hm
 refine SO Tryz.func139 rfl rfl [(0, .p (slNode p0)), (1, .fn 140 [rr 0])] [(0, bx [pI p1c0])] ?_
 intro cx hnt
 refine Sq (RD hnt (.no :: []) [] [] [] [] tv ?_)
 refine Sq (Sq (RD hnt (nn 3 []) [] [(7, pI ((p0.length : Nat) : Int)), (8, pI 0)] [] [] tv ?_))
 refine Bk ?_
 obtain ⟨hc1, hm⟩ := go1 hm
 refine DW.rangeO (fun (k1 : Nat) (s1 : Unit) => mkSt [(0, .p (slNode p0)), (1, .fn 140 [rr 0]), (7, pI ((p0.length : Nat) : Int)), (8, pI ((k1 : Nat) : Int))] [(0, bx [pI p1c0])]) dNode hm Conv.eqK ?_
 intro k1 s1 n1 hk1 hs1 he1
 refine Sq (RD hnt (.no :: []) [] [(9, pB (decide (((k1 : Nat) : Int) < ((p0.length : Nat) : Int))))] [] [] tv ?_)
 refine Sq (condK (decide (((k1 : Nat) : Int) < ((p0.length : Nat) : Int))) ?_ ?_)
 ·intro h9
  have hlt1 : k1 < p0.length := by have := of_decide_eq_true h9; omega
  have hm := hs1 hlt1
  unfold IndexFunc_slices_NodeQAtFa_forestL1 at hm
  refine Sk ?_
  refine Sq (Bk ?_)
  refine Sq (RD hnt (nn 2 []) [9] [(5, pI ((k1 : Nat) : Int))] [] [] tv ?_)
  obtain ⟨r10, hr10, hm⟩ := bo hm
  refine Sq (RD hnt (nn 5 (.call 140 [0] true (pB r10) [.box [pI p1c0]] [] :: [])) [] [(16, pB r10)] [] [] (an (nn0 k1) (an (ltc hlt1) (an (AtFa_forestSpec (p0.getD k1 (default : Node)) p1c0 r10 hr10) (an tv tv)))) ?_)
  refine condM hm ?_ ?_
  ·intro h11 hm
   refine Sq (RK hnt (nn 2 []) [(4, pI ((k1 : Nat) : Int))] [(0, bx [pI p1c0])] tv ?_)
   obtain rfl := sj hm
   exact DW.ret (retK [.box [pI p1c0]] [] (pI ((k1 : Nat) : Int)))
  ·intro h11 hm
   refine Sk ?_
   refine DW.done ?_
   show DW _ _ _ _ _
   refine RD hnt (nn 2 []) [5, 16] [(8, pI (w64 (((k1 : Nat) : Int) + 1)))] [] [] tv ?_
   exact jD () ⟨hlt1, hm⟩ (Conv.tp [(8, pI (w64 (((k1 : Nat) : Int) + 1)))] [] (by kernel_rfl) (.cons rfl (.of_eq (congrArg pI (w64_succ hlt1 hc1))) .nil) .nil)
 ·intro h9
  have hge1 : ¬ k1 < p0.length := by have := of_decide_eq_false h9; omega
  have hm := he1 hge1
  unfold IndexFunc_slices_NodeQAtFa_forestD1 at hm
  refine DW.exit ?_
  refine joinQ_exit ?_
  refine KQ_exit ?_
  refine blockQ_exit ?_
  show DW _ _ _ _ _
  refine Sq (RK hnt (.no :: []) [(4, pI (-1))] [(0, bx [pI p1c0])] tv ?_)
  obtain rfl := sj hm
  exact DW.ret (retK [.box [pI p1c0]] [] (pI (-1)))

theorem At_forestSpec (p0 : Tree) (p1 : Int) (RES : Int) (hm : At_forest p0 p1 = some RES) : Spec Tryz.prog 95 [.p (.agg (encTree p0)), pI p1] [] (pI RES) [] [] := by
 unfold At_forest at hm
 refine SO Tryz.func95 rfl rfl [(0, .p (.agg (encTree p0))), (1, pI p1)] [] ?_
 intro cx hnt
 refine Sq (RK hnt (nn 3 []) [(2, rr 1016), (3, rr 1024)] [(1016, bx (pm (encTree p0))), (1024, bx [pI p1])] tv ?_)
 obtain ⟨r1, hr1, hm⟩ := bo hm
 refine Sq (RK hnt (nn 3 (.call 139 [1024] true (pI r1) [.box [pI p1]] [] :: .no :: [])) [(4, pI r1)] [] (an (IndexFunc_slices_NodeQAtFa_forestSpec p0.nodes p1 r1 hr1) (an tv tv)) ?_)
 obtain rfl := sj hm
 exact DW.ret (retK [] [] (pI r1))
abbrev o20 (ks : List Nat) (b : Bool) (RES : Int) : Orc := .call 95 ks b (pI RES) [] []

theorem fine_memberSpec (p0 : Hierarchy) (p1 : Task) (RES : Bool) (hm : fine_member p0 p1 = some RES) : Spec Tryz.prog 159 [.p (.agg (encHierarchy p0)), .p (.agg (encTask p1))] [] (pB RES) [] [] := by
 unfold fine_member at hm
 refine SO Tryz.func159 rfl rfl [(0, .p (.agg (encHierarchy p0))), (1, .p (.agg (encTask p1)))] [] ?_
 intro cx hnt
 refine Sq (RK hnt (nn 3 []) [(2, rr 1016), (3, rr 1024)] [(1016, bx (pm (encHierarchy p0))), (1024, bx (pm (encTask p1)))] tv ?_)
 obtain ⟨r1, hr1, hm⟩ := bo hm
 refine Sq (RD hnt (nn 3 (o16 [] true r1 :: nn 6 [])) [] [(5, rr 1040), (6, pB r1.2)] [] [(1040, bx (pm (encTask r1.1)))] (an (Find_crewSpec p0 p1.process r1 hr1) tv) ?_)
 refine Sq ?_
 refine Jn (ι := Bool) (fun (y1 : Bool) => mkSt [(4, pB y1)] []) (fun y1 => fine_memberJ1 y1 = some RES) ?_ ?_
 ·intro y1 hm
  unfold fine_memberJ1 at hm
  obtain rfl := sj hm
  exact DW.ret (retK [] [] (pB y1))
 ·rcases bt (decide (p1.user ≥ 0)) with h2 | h2
  ·replace hm := if_t h2 hm
   rcases bt (decide (p1.user ≤ 1048576)) with h3 | h3
   ·replace hm := if_t h3 hm
    rcases bt r1.2 with h4 | h4
    ·replace hm := if_t h4 hm
     rcases bt (r1.1.process == r1.1.id) with h5 | h5
     ·replace hm := if_t h5 hm
      rcases bt (r1.1.user == p1.user) with h6 | h6
      ·replace hm := if_t h6 hm
       obtain ⟨r7, hr7, hm⟩ := bo hm
       refine RK hnt (nn 7 (pT :: nn 2 (pT :: nn 6 (pT :: nn 6 (pT :: nn 5 (o20 [] true r7 :: .no :: pT :: .no :: [])))))) [(4, pB (decide (r7 ≥ 0)))] [] (an4 h2 (an2 h3 (an6 h4 (an6 h5 (an5 h6 (an (At_forestSpec p0.tree p1.group r7 hr7) (an2 h6 tv))))))) ?_
       exact jD (decide (r7 ≥ 0)) hm .refl
      ·replace hm := if_f h6 hm
       refine RK hnt (nn 7 (pT :: nn 2 (pT :: nn 6 (pT :: nn 6 (pT :: .no :: sk 6 (pF :: .no :: [])))))) [(4, pB false)] [] (an4 h2 (an2 h3 (an6 h4 (an6 h5 (an h6 (an6 h6 tv)))))) ?_
       exact jD false hm .refl
     ·replace hm := if_f h5 hm
      refine RK hnt (nn 7 (pT :: nn 2 (pT :: nn 6 (pT :: .no :: sk 5 (pF :: .no :: sk 6 (pF :: .no :: [])))))) [(4, pB false)] [] (an4 h2 (an2 h3 (an6 h4 (an6 h5 (an ff (an6 ff tv)))))) ?_
      exact jD false hm .refl
    ·replace hm := if_f h4 hm
     refine RK hnt (nn 7 (pT :: nn 2 (pT :: .no :: sk 5 (pF :: .no :: sk 5 (pF :: .no :: sk 6 (pF :: .no :: [])))))) [(4, pB false)] [] (an4 h2 (an2 h3 (an6 h4 (an ff (an6 ff (an6 ff tv)))))) ?_
     exact jD false hm .refl
   ·replace hm := if_f h3 hm
    refine RK hnt (nn 7 (pT :: .no :: .skip :: pF :: .no :: sk 5 (pF :: .no :: sk 5 (pF :: .no :: sk 6 (pF :: .no :: []))))) [(4, pB false)] [] (an4 h2 (an2 h3 (an ff (an6 ff (an6 ff (an6 ff tv)))))) ?_
    exact jD false hm .refl
  ·replace hm := if_f h2 hm
   refine RK hnt (nn 4 (sk 3 (pF :: .no :: .skip :: pF :: .no :: sk 5 (pF :: .no :: sk 5 (pF :: .no :: sk 6 (pF :: .no :: [])))))) [(4, pB false)] [] (an4 h2 (an3 ff (an6 ff (an6 ff (an6 ff tv))))) ?_
   exact jD false hm .refl
abbrev o15 (ks : List Nat) (b : Bool) (RES : Bool) : Orc := .call 159 ks b (pB RES) [] []

abbrev c9e1 (p0 : Hierarchy) (k1 : Nat) := (p0.tasks.getD k1 (default : Task))
theorem Check_memberSpec (p0 : Hierarchy) (RES : Bool) (hm : Check_member p0 = some RES) : Spec Tryz.prog 133 [.p (.agg (encHierarchy p0))] [] (pB RES) [] [] := by
 unfold Check_member at hm
 refine SO Tryz.func133 rfl rfl [(0, .p (.agg (encHierarchy p0)))] [] ?_
 intro cx hnt
 refine Sq (RK hnt (nn 2 []) [(1, rr 1008)] [(1008, bx (pm (encHierarchy p0)))] tv ?_)
 refine Sq (Sq ?_)
 refine Jn (ι := Bool) (fun (y1 : Bool) => mkSt [(1, rr 1008), (20, pB y1)] [(1008, bx (pm (encHierarchy p0)))]) (fun y1 => (Check_memberJ1 p0) y1 = some RES) ?_ ?_
 ·intro y1 hm
  unfold Check_memberJ1 at hm
  refine condM hm ?_ ?_
  ·intro h4 hm
   refine Sq (RK hnt (.no :: []) [(2, pB false)] [] tv ?_)
   obtain rfl := sj hm
   exact DW.ret (retK [] [] (pB false))
  ·intro h4 hm
   refine Sk ?_
   refine Sq (RD hnt (.no :: []) [20] [(3, pI 0)] [] [] tv ?_)
   refine Sq (Sq (RD hnt (nn 4 []) [] [(22, .p (slTask p0.tasks)), (23, pI ((p0.tasks.length : Nat) : Int)), (24, pI 0)] [] [] tv ?_))
   refine Bk ?_
   obtain ⟨hc1, hm⟩ := go1 hm
   refine DW.rangeO (fun (k1 : Nat) (s1 : Int) => mkSt [(1, rr 1008), (3, pI s1), (22, .p (slTask p0.tasks)), (23, pI ((p0.tasks.length : Nat) : Int)), (24, pI ((k1 : Nat) : Int))] [(1008, bx (pm (encHierarchy p0)))]) dTask hm Conv.eqK ?_
   intro k1 s1 n1 hk1 hs1 he1
   refine Sq (RD hnt (.no :: []) [] [(25, pB (decide (((k1 : Nat) : Int) < ((p0.tasks.length : Nat) : Int))))] [] [] tv ?_)
   refine Sq (condK (decide (((k1 : Nat) : Int) < ((p0.tasks.length : Nat) : Int))) ?_ ?_)
   ·intro h15
    have hlt1 : k1 < p0.tasks.length := by have := of_decide_eq_true h15; omega
    have hm := hs1 hlt1
    unfold Check_memberL1 at hm
    refine Sk ?_
    refine Sq (Bk ?_)
    refine Sq (RD hnt (nn 4 []) [25] [(5, rr 1040)] [] [(1040, bx (pm (encTask (c9e1 p0 k1))))] (an (nn0 k1) (an (ltc hlt1) tv)) ?_)
    refine Sq (Sq ?_)
    refine Jn (ι := Bool) (fun (y4 : Bool) => mkSt [(1, rr 1008), (5, rr 1040), (22, .p (slTask p0.tasks)), (23, pI ((p0.tasks.length : Nat) : Int)), (24, pI ((k1 : Nat) : Int)), (37, pB y4)] [(1008, bx (pm (encHierarchy p0))), (1040, bx (pm (encTask (c9e1 p0 k1))))]) (fun y4 => (Check_memberJ4 (c9e1 p0 k1) n1) y4 = some RES) ?_ ?_
    ·intro y4 hm
     unfold Check_memberJ4 at hm
     refine condM hm ?_ ?_
     ·intro h18 hm
      refine Sq (RK hnt (.no :: []) [(2, pB false)] [] tv ?_)
      obtain rfl := sj hm
      exact DW.ret (retK [] [] (pB false))
     ·intro h18 hm
      refine Sk ?_
      refine RD hnt (nn 3 []) [5, 37] [(3, pI (c9e1 p0 k1).id)] [1040] [] tv ?_
      refine DW.done ?_
      show DW _ _ _ _ _
      refine RD hnt (nn 2 []) [] [(24, pI (w64 (((k1 : Nat) : Int) + 1)))] [] [] tv ?_
      exact jD (c9e1 p0 k1).id ⟨hlt1, hm⟩ (Conv.tp [(24, pI (w64 (((k1 : Nat) : Int) + 1)))] [] (by kernel_rfl) (.cons rfl (.of_eq (congrArg pI (w64_succ hlt1 hc1))) .nil) .nil)
    ·rcases bt (decide ((c9e1 p0 k1).id ≤ s1)) with h16 | h16
     ·replace hm := if_t h16 hm
      refine RD hnt (nn 5 (sk 4 (pT :: []))) [3] [(37, pB true)] [] [] (an5 h16 tv) ?_
      exact jD true hm Conv.eqK
     ·replace hm := if_f h16 hm
      obtain ⟨r17, hr17, hm⟩ := bo hm
      refine RD hnt (nn 7 (o15 [] true r17 :: .no :: pF :: [])) [3] [(37, pB (!r17))] [] [] (an3 h16 (an (fine_memberSpec p0 (c9e1 p0 k1) r17 hr17) (an2 h16 tv))) ?_
      exact jD (!r17) hm Conv.eqK
   ·intro h15
    have hge1 : ¬ k1 < p0.tasks.length := by have := of_decide_eq_false h15; omega
    have hm := he1 hge1
    unfold Check_memberD1 at hm
    refine DW.exit ?_
    refine joinQ_exit ?_
    refine KQ_exit ?_
    refine blockQ_exit ?_
    show DW _ _ _ _ _
    refine Sq (RK hnt (nn 5 []) [(2, pB (decide (p0.next > s1)))] [] tv ?_)
    obtain rfl := sj hm
    exact DW.ret (retK [] [] (pB (decide (p0.next > s1))))
 ·rcases bt (decide (((p0.tasks.length : Nat) : Int) > 128)) with h1 | h1
  ·replace hm := if_t h1 hm
   refine RD hnt (nn 5 (sk 3 (pT :: .no :: sk 4 (pT :: [])))) [] [(20, pB true)] [] [] (an4 h1 (an5 tt tv)) ?_
   exact jD true hm Conv.eqK
  ·replace hm := if_f h1 hm
   rcases bt (decide (p0.next > 2147483648)) with h2 | h2
   ·replace hm := if_t h2 hm
    refine RD hnt (nn 8 (pF :: .no :: sk 4 (pT :: []))) [] [(20, pB true)] [] [] (an4 h1 (an5 h2 tv)) ?_
    exact jD true hm Conv.eqK
   ·replace hm := if_f h2 hm
    obtain ⟨r3, hr3, hm⟩ := bo hm
    refine RD hnt (nn 8 (pF :: nn 3 (o10 [] true r3 :: .no :: pF :: []))) [] [(20, pB (!r3))] [] [] (an4 h1 (an3 h2 (an (Check_treeSpec p0.tree r3 hr3) (an2 h2 tv)))) ?_
    exact jD (!r3) hm Conv.eqK
abbrev o9 (ks : List Nat) (b : Bool) (RES : Bool) : Orc := .call 133 ks b (pB RES) [] []

theorem Find_forestSpec (p0 : Tree) (p1 : Int) (RES : Node × Bool) (hm : Find_forest p0 p1 = some RES) : Spec Tryz.prog 93 [.p (.agg (encTree p0)), pI p1] [] (.p (.tup [.agg (encNode RES.1), vb RES.2])) [] [] := by
 unfold Find_forest at hm
 refine SO Tryz.func93 rfl rfl [(0, .p (.agg (encTree p0))), (1, pI p1)] [] ?_
 intro cx hnt
 refine Sq (RK hnt (nn 3 []) [(1, pI p1), (2, rr 1016), (4, rr 1032)] [(1016, bx (pm (encTree p0))), (1032, bx [pI 0, pI 0, pS ByteArray.empty, pI 0, pI 0, pI 0])] tv ?_)
 obtain ⟨r1, hr1, hm⟩ := bo hm
 refine Sq (RD hnt (nn 2 (o20 [] true r1 :: .no :: [])) [1] [(6, pI r1)] [] [] (an (At_forestSpec p0 p1 r1 hr1) tv) ?_)
 refine Sq (Sq (RD hnt (nn 2 []) [] [(11, pB (decide (r1 < 0)))] [] [] tv ?_))
 refine condM hm ?_ ?_
 ·intro h2 hm
  refine Sq (RD hnt (nn 3 []) [2, 6, 11] [(5, pB false)] [1016] [] tv ?_)
  obtain rfl := sj hm
  exact DW.ret (retK [] [] (.p (.tup [.agg [vi 0, vi 0, vs ByteArray.empty, vi 0, vi 0, vi 0], vb false])))
 ·intro h2 hm
  refine Sk ?_
  obtain ⟨g3, hm⟩ := go1 hm
  refine Sq (RK hnt (nn 7 []) [(4, rr 1032), (5, pB true)] [(1032, bx (pm (encNode (p0.nodes.getD (Int.toNat r1) dNode))))] (an g3.1 (an g3.2 tv)) ?_)
  obtain rfl := sj hm
  exact DW.ret (retK [] [] (.p (.tup [.agg (encNode (p0.nodes.getD (Int.toNat r1) dNode)), vb true])))
abbrev o24 (ks : List Nat) (b : Bool) (RES : Node × Bool) : Orc := .call 93 ks b (.p (.tup [.agg (encNode RES.1), vb RES.2])) [] []

theorem from_controlSpec (p0 : Tree) (p1 : Node) (RES : Int) (hm : from_control p0 p1 = some RES) : Spec Tryz.prog 134 [.p (.agg (encTree p0)), .p (.agg (encNode p1))] [] (pI RES) [] [] := by
 unfold from_control at hm
 refine SO Tryz.func134 rfl rfl [(0, .p (.agg (encTree p0))), (1, .p (.agg (encNode p1)))] [] ?_
 intro cx hnt
 refine Sq (RK hnt (nn 3 []) [(2, rr 1016), (3, rr 1024)] [(1016, bx (pm (encTree p0))), (1024, bx (pm (encNode p1)))] tv ?_)
 refine Sq (RD hnt (.no :: []) [] [(5, pI 31)] [] [] tv ?_)
 refine Sq (Sq (RD hnt (nn 3 []) [] [(10, pB (p1.id != 1))] [] [] tv ?_))
 refine Jn (ι := Int) (fun (y1 : Int) => mkSt [(3, rr 1024), (5, pI y1)] [(1024, bx (pm (encNode p1)))]) (fun y1 => (from_controlJ1 p1) y1 = some RES) ?_ ?_
 ·intro y1 hm
  unfold from_controlJ1 at hm
  refine Sq (Sq (RK hnt (nn 3 []) [(5, pI y1), (22, pB (p1.kind == 1))] [] tv ?_))
  refine Jn (ι := Int) (fun (y2 : Int) => mkSt [(5, pI y2)] []) (fun y2 => from_controlJ2 y2 = some RES) ?_ ?_
  ·intro y2 hm
   unfold from_controlJ2 at hm
   refine Sq (RK hnt (nn 2 []) [(4, pI y2)] [] tv ?_)
   obtain rfl := sj hm
   exact DW.ret (retK [] [] (pI y2))
  ·refine condM hm ?_ ?_
   ·intro h3 hm
    refine RK hnt (nn 3 []) [(5, pI (kandNot .i64 y1 6))] [] tv ?_
    exact jD (kandNot .i64 y1 6) hm .refl
   ·intro h3 hm
    refine Sk ?_
    exact jD y1 hm Conv.t0
 ·refine condM hm ?_ ?_
  ·intro h1 hm
   obtain ⟨r2, hr2, hm⟩ := bo hm
   refine Sq (RD hnt (nn 3 (o24 [] true r2 :: nn 6 [])) [2, 5, 10] [(6, rr 1048)] [1016] [(1048, bx (pm (encNode r2.1)))] (an (Find_forestSpec p0 p1.parent r2 hr2) tv) ?_)
   refine RD hnt (nn 3 []) [6] [(5, pI r2.1.control)] [1048] [] tv ?_
   exact jD r2.1.control hm Conv.eqK
  ·intro h1 hm
   refine Sk ?_
   exact jD 31 hm Conv.t0
abbrev o23 (ks : List Nat) (b : Bool) (RES : Int) : Orc := .call 134 ks b (pI RES) [] []

theorem TasksFa_crewSpec (p0 : Task) (p1 : Int) (RES : Bool) (hm : TasksFa_crew p0 p1 = some RES) : Spec Tryz.prog 142 [.p (.agg (encTask p0)), rr 0] [.box [pI p1]] (pB RES) [.box [pI p1]] [] := by
 unfold TasksFa_crew at hm
 refine SO Tryz.func142 rfl rfl [(0, .p (.agg (encTask p0))), (1, rr 0)] [(0, bx [pI p1])] ?_
 intro cx hnt
 refine Sq (RD hnt (nn 2 []) [0] [(2, rr 1016)] [] [(1016, bx (pm (encTask p0)))] tv ?_)
 refine Sq (RK hnt (nn 5 []) [(3, pB (p0.group == p1))] [(0, bx [pI p1])] tv ?_)
 obtain rfl := sj hm
 exact DW.ret (retK [.box [pI p1]] [] (pB (p0.group == p1)))

theorem ID_crewSpec (p0 : Task) (RES : Int) (hm : ID_crew p0 = some RES) : Spec Tryz.prog 143 [.p (.agg (encTask p0))] [] (pI RES) [] [] := by
 unfold ID_crew at hm
 refine SO Tryz.func143 rfl rfl [(0, .p (.agg (encTask p0)))] [] ?_
 intro cx hnt
 refine Sq (RK hnt (nn 2 []) [(1, rr 1008)] [(1008, bx (pm (encTask p0)))] tv ?_)
 refine Sq (RK hnt (nn 3 []) [(2, pI p0.id)] [] tv ?_)
 obtain rfl := sj hm
 exact DW.ret (retK [] [] (pI p0.id))
abbrev o28 (ks : List Nat) (b : Bool) (RES : Int) : Orc := .call 143 ks b (pI RES) [] []

abbrev c31e1 (y3 : Int × Int) := (w64 (y3.2 + (w64 (((byteAt (bs [0, 1, 2, 2, 3, 3, 3, 3, 4, 4, 4, 4, 4, 4, 4, 4, 5, 5, 5, 5, 5, 5, 5, 5, 5, 5, 5, 5, 5, 5, 5, 5, 6, 6, 6, 6, 6, 6, 6, 6, 6, 6, 6, 6, 6, 6, 6, 6, 6, 6, 6, 6, 6, 6, 6, 6, 6, 6, 6, 6, 6, 6, 6, 6, 7, 7, 7, 7, 7, 7, 7, 7, 7, 7, 7, 7, 7, 7, 7, 7, 7, 7, 7, 7, 7, 7, 7, 7, 7, 7, 7, 7, 7, 7, 7, 7, 7, 7, 7, 7, 7, 7, 7, 7, 7, 7, 7, 7, 7, 7, 7, 7, 7, 7, 7, 7, 7, 7, 7, 7, 7, 7, 7, 7, 7, 7, 7, 7, 8, 8, 8, 8, 8, 8, 8, 8, 8, 8, 8, 8, 8, 8, 8, 8, 8, 8, 8, 8, 8, 8, 8, 8, 8, 8, 8, 8, 8, 8, 8, 8, 8, 8, 8, 8, 8, 8, 8, 8, 8, 8, 8, 8, 8, 8, 8, 8, 8, 8, 8, 8, 8, 8, 8, 8, 8, 8, 8, 8, 8, 8, 8, 8, 8, 8, 8, 8, 8, 8, 8, 8, 8, 8, 8, 8, 8, 8, 8, 8, 8, 8, 8, 8, 8, 8, 8, 8, 8, 8, 8, 8, 8, 8, 8, 8, 8, 8, 8, 8, 8, 8, 8, 8, 8, 8, 8, 8, 8, 8, 8, 8, 8, 8, 8, 8, 8, 8, 8, 8, 8, 8, 8, 8, 8, 8, 8, 8]) (Int.toNat (IntKind.u8.wrap y3.1))) : Nat) : Int))))
theorem Len64_bitsSpec (p0 : Int) (RES : Int) (hm : Len64_bits p0 = some RES) : Spec Tryz.prog 184 [.p (vk .u64 p0)] [] (pI RES) [] [] := by
 unfold Len64_bits at hm
 refine SO Tryz.func184 rfl rfl [(0, .p (vk .u64 p0))] [] ?_
 intro cx hnt
 refine Sq (RD hnt (.no :: []) [] [(2, pI 0)] [] [] tv ?_)
 refine Sq (Sq (RD hnt (nn 2 []) [] [(4, pB (decide (p0 ≥ 4294967296)))] [] [] tv ?_))
 refine Jn (ι := Int × Int) (fun (y1 : Int × Int) => mkSt [(0, .p (vk .u64 y1.1)), (2, pI y1.2)] []) (fun y1 => Len64_bitsJ1 y1 = some RES) ?_ ?_
 ·intro y1 hm
  unfold Len64_bitsJ1 at hm
  refine Sq (Sq (RD hnt (nn 2 []) [] [(8, pB (decide (y1.1 ≥ 65536)))] [] [] tv ?_))
  refine Jn (ι := Int × Int) (fun (y2 : Int × Int) => mkSt [(0, .p (vk .u64 y2.1)), (2, pI y2.2)] []) (fun y2 => Len64_bitsJ2 y2 = some RES) ?_ ?_
  ·intro y2 hm
   unfold Len64_bitsJ2 at hm
   refine Sq (Sq (RD hnt (nn 2 []) [] [(14, pB (decide (y2.1 ≥ 256)))] [] [] tv ?_))
   refine Jn (ι := Int × Int) (fun (y3 : Int × Int) => mkSt [(0, .p (vk .u64 y3.1)), (2, pI y3.2)] []) (fun y3 => Len64_bitsJ3 y3 = some RES) ?_ ?_
   ·intro y3 hm
    unfold Len64_bitsJ3 at hm
    obtain ⟨g4, hm⟩ := go1 hm
    refine Sq (RK hnt (nn 7 []) [(2, pI (c31e1 y3))] [] (an g4.1 (an g4.2 tv)) ?_)
    obtain rfl := sj hm
    exact DW.ret (retK [] [] (pI (c31e1 y3)))
   ·refine condM hm ?_ ?_
    ·intro h3 hm
     refine Sq (RK hnt (nn 3 []) [(0, .p (vk .u64 (kshr .u64 y2.1 8))), (2, pI y2.2)] [] (an (by decide : (0 : Int) ≤ 8) tv) ?_)
     refine RD hnt (nn 3 []) [] [(2, pI (w64 (y2.2 + 8)))] [] [] tv ?_
     exact jD ((kshr .u64 y2.1 8), (w64 (y2.2 + 8))) hm Conv.eqK
    ·intro h3 hm
     refine Sk ?_
     exact jD (y2.1, y2.2) hm Conv.t0
  ·refine condM hm ?_ ?_
   ·intro h2 hm
    refine Sq (RK hnt (nn 3 []) [(0, .p (vk .u64 (kshr .u64 y1.1 16))), (2, pI y1.2)] [] (an (by decide : (0 : Int) ≤ 16) tv) ?_)
    refine RD hnt (nn 3 []) [] [(2, pI (w64 (y1.2 + 16)))] [] [] tv ?_
    exact jD ((kshr .u64 y1.1 16), (w64 (y1.2 + 16))) hm Conv.eqK
   ·intro h2 hm
    refine Sk ?_
    exact jD (y1.1, y1.2) hm Conv.t0
 ·refine condM hm ?_ ?_
  ·intro h1 hm
   refine Sq (RK hnt (nn 3 []) [(0, .p (vk .u64 (kshr .u64 p0 32)))] [] (an (by decide : (0 : Int) ≤ 32) tv) ?_)
   refine RD hnt (.no :: []) [] [(2, pI 32)] [] [] tv ?_
   exact jD ((kshr .u64 p0 32), 32) hm Conv.eqK
  ·intro h1 hm
   refine Sk ?_
   exact jD (p0, 0) hm Conv.t0
abbrev o31 (ks : List Nat) (b : Bool) (RES : Int) : Orc := .call 184 ks b (pI RES) [] []

theorem Len_bitsSpec (p0 : Int) (RES : Int) (hm : Len_bits p0 = some RES) : Spec Tryz.prog 169 [.p (vk .u64 p0)] [] (pI RES) [] [] := by
 unfold Len_bits at hm
 refine SO Tryz.func169 rfl rfl [(0, .p (vk .u64 p0))] [] ?_
 intro cx hnt
 refine Sq (RD hnt (.no :: []) [] [] [] [] tv ?_)
 refine Sq (condF ff ?_)
 refine Sk ?_
 obtain ⟨r1, hr1, hm⟩ := bo hm
 refine Sq (RK hnt (.no :: o31 [] true r1 :: .no :: []) [(2, pI r1)] [] (an (Len64_bitsSpec p0 r1 hr1) tv) ?_)
 obtain rfl := sj hm
 exact DW.ret (retK [] [] (pI r1))
abbrev o30 (ks : List Nat) (b : Bool) (RES : Int) : Orc := .call 169 ks b (pI RES) [] []

theorem isNaN_cmp_intSpec (p0 : Int) (RES : Bool) (hm : isNaN_cmp_int p0 = some RES) : Spec Tryz.prog 190 [pI p0] [] (pB RES) [] [] := by
 unfold isNaN_cmp_int at hm
 refine SO Tryz.func190 rfl rfl [(0, pI p0)] [] ?_
 intro cx hnt
 refine Sq (RK hnt (.no :: []) [(0, pI p0)] [] tv ?_)
 refine Sq (RK hnt (nn 4 []) [(2, pB (p0 != p0))] [] tv ?_)
 obtain rfl := sj hm
 exact DW.ret (retK [] [] (pB (p0 != p0)))
abbrev o35 (ks : List Nat) (b : Bool) (RES : Bool) : Orc := .call 190 ks b (pB RES) [] []

theorem Less_cmp_intSpec (p0 : Int) (p1 : Int) (RES : Bool) (hm : Less_cmp_int p0 p1 = some RES) : Spec Tryz.prog 180 [pI p0, pI p1] [] (pB RES) [] [] := by
 unfold Less_cmp_int at hm
 refine SO Tryz.func180 rfl rfl [(0, pI p0), (1, pI p1)] [] ?_
 intro cx hnt
 refine Sq (RD hnt (.no :: []) [] [] [] [] tv ?_)
 obtain ⟨r1, hr1, hm⟩ := bo hm
 refine Sq ?_
 refine Jn (ι := Bool) (fun (y1 : Bool) => mkSt [(4, pB y1)] []) (fun y1 => Less_cmp_intJ1 y1 = some RES) ?_ ?_
 ·intro y1 hm
  unfold Less_cmp_intJ1 at hm
  obtain rfl := sj hm
  exact DW.ret (retK [] [] (pB y1))
 ·rcases bt r1 with h2 | h2
  ·replace hm := if_t h2 hm
   obtain ⟨r3, hr3, hm⟩ := bo hm
   rcases bt (!r3) with h4 | h4
   ·replace hm := if_t h4 hm
    refine RK hnt (.no :: o35 [] true r1 :: nn 2 (o35 [] true r3 :: .no :: pT :: .no :: sk 3 (pT :: .no :: []))) [(4, pB true)] [] (an (isNaN_cmp_intSpec p0 r1 hr1) (an2 h2 (an (isNaN_cmp_intSpec p1 r3 hr3) (an2 h2 (an4 h4 tv))))) ?_
    exact jD true hm .refl
   ·replace hm := if_f h4 hm
    refine RK hnt (.no :: o35 [] true r1 :: nn 2 (o35 [] true r3 :: .no :: pT :: nn 4 (pF :: .no :: []))) [(4, pB (decide (p0 < p1)))] [] (an (isNaN_cmp_intSpec p0 r1 hr1) (an2 h2 (an (isNaN_cmp_intSpec p1 r3 hr3) (an2 h2 (an4 h4 tv))))) ?_
    exact jD (decide (p0 < p1)) hm .refl
  ·replace hm := if_f h2 hm
   refine RK hnt (.no :: o35 [] true r1 :: .no :: sk 3 (pF :: nn 4 (pF :: .no :: []))) [(4, pB (decide (p0 < p1)))] [] (an (isNaN_cmp_intSpec p0 r1 hr1) (an4 h2 (an4 ff tv))) ?_
   exact jD (decide (p0 < p1)) hm .refl
abbrev o34 (ks : List Nat) (b : Bool) (RES : Bool) : Orc := .call 180 ks b (pB RES) [] []

abbrev c33e1 (s4 : (List Int) × Int) := (s4.1.getD (Int.toNat (w64 (s4.2 - 1))) 0)
abbrev c33e2 (s4 : (List Int) × Int) := (updF (updF (elI s4.1) (Int.toNat s4.2) [vi (c33e1 s4)]) (Int.toNat (w64 (s4.2 - 1))) (setRange ((updF (elI s4.1) (Int.toNat s4.2) [vi (c33e1 s4)]) (Int.toNat (w64 (s4.2 - 1)))) 0 [vi (s4.1.getD (Int.toNat s4.2) 0)]))
abbrev c33e3 (s4 : (List Int) × Int) := ((s4.1.set (Int.toNat s4.2) (c33e1 s4)).set (Int.toNat (w64 (s4.2 - 1))) (s4.1.getD (Int.toNat s4.2) 0))
theorem insertionSortOrdered_slices_intSpec (p0 : List Int) (p1 : Int) (p2 : Int) (RES : List Int) (hm : insertionSortOrdered_slices_int p0 p1 p2 = some RES) : Spec Tryz.prog 174 [ow 0 p0.length, pI p1, pI p2] [roI p0] (.p (.tup [])) [roI RES] [] := by
 unfold insertionSortOrdered_slices_int at hm
 refine SO Tryz.func174 rfl rfl [(0, ow 0 p0.length), (1, pI p1), (2, pI p2)] [(0, ob0 (roI p0))] ?_
 intro cx hnt
 refine Sq (RD hnt (nn 3 []) [] [(6, pI (w64 (p1 + 1)))] [] [] tv ?_)
 refine Bk ?_
 obtain ⟨hc1, hm⟩ := go1 hm
 refine DW.forO (fun (k1 : Int) (s1 : List Int) => mkSt [(0, ow 0 s1.length), (1, pI p1), (2, pI p2), (6, pI k1)] [(0, ob0 (roI s1))]) (lo := (w64 (p1 + 1))) (hi := p2) hm Conv.eqK ?_
 intro k1 s1 n1 hk1 hs1 he1
 refine Sq (Sq (RD hnt (nn 3 []) [] [(12, pB (decide (k1 < p2)))] [] [] tv ?_))
 refine condK (decide (k1 < p2)) ?_ ?_
 ·intro h75
  have hlt1 : k1 < p2 := by have := of_decide_eq_true h75; omega
  have hm := hs1 hlt1
  unfold insertionSortOrdered_slices_intL1 at hm
  refine Sk ?_
  refine Sq (Bk ?_)
  refine Sq (RD hnt (nn 2 []) [12] [(7, pI k1)] [] [] tv ?_)
  refine Bk ?_
  refine DW.whileO (fun (s4 : (List Int) × Int) => mkSt [(0, ow 0 s4.1.length), (1, pI p1), (2, pI p2), (6, pI k1), (7, pI s4.2)] [(0, ob0 (roI s4.1))]) hm Conv.eqK ?_
  intro s4 n4 hm
  unfold insertionSortOrdered_slices_intL4 at hm
  refine Sq (Sq ?_)
  refine Jn (ι := Bool) (fun (y6 : Bool) => mkSt [(0, ow 0 s4.1.length), (1, pI p1), (2, pI p2), (6, pI k1), (7, pI s4.2), (30, pB y6)] [(0, ob0 (roI s4.1))]) (fun y6 => (insertionSortOrdered_slices_intJ6 n1 s4 n4) y6 = some RES) ?_ ?_
  ·intro y6 hm
   unfold insertionSortOrdered_slices_intJ6 at hm
   refine condM hm ?_ ?_
   ·intro h97 hm
    refine Sk ?_
    refine Sq (Bk ?_)
    obtain ⟨g98, g99, g100, g101, hm⟩ := go4 hm
    obtain ⟨g102, g103, g104, g105, hm⟩ := go4 hm
    refine RN hnt (nn 18 []) [(0, ow 0 (c33e3 s4).length), (1, pI p1), (2, pI p2), (6, pI k1), (7, pI s4.2)] [(0, ob0 (roI (c33e3 s4)))] [(0, ow 0 s4.1.length)] [(0, .row 1 s4.1.length (c33e2 s4))] (an g98.1 (an g98.2 (an g99 (an g100.1 (an g100.2 (an g101 (an g102.1 (an g102.2 (an g103 (an g104.1 (an g104.2 (an g105 tv)))))))))))) (by kernel_rfl) (.cons rfl (MLe.ownLen (enc := encI) (d := 0) (f := (c33e2 s4)) (RowIs.updR (RowIs.upd RowIs.elems (c33e1 s4) rfl) (by omega) (s4.1.getD (Int.toNat s4.2) 0) rfl)) .nil) (.cons rfl (BLe.typed (RowIs.updR (RowIs.upd RowIs.elems (c33e1 s4) rfl) (by omega) (s4.1.getD (Int.toNat s4.2) 0) rfl)) .nil) ?_
    refine DW.done ?_
    show DW _ _ _ _ _
    refine RD hnt (nn 3 []) [] [(7, pI (w64 (s4.2 - 1)))] [] [] tv ?_
    exact jD ((c33e3 s4), (w64 (s4.2 - 1))) hm Conv.eqK
   ·intro h97 hm
    refine DW.exit ?_
    refine joinQ_exit ?_
    refine KQ_exit ?_
    refine blockQ_exit ?_
    show DW _ _ _ _ _
    refine DW.done ?_
    show DW _ _ _ _ _
    refine RD hnt (nn 3 []) [7, 30] [(6, pI (w64 (k1 + 1)))] [] [] tv ?_
    exact jD s4.1 ⟨hlt1, hm⟩ (Conv.tp [(6, pI (w64 (k1 + 1)))] [] (by kernel_rfl) (.cons rfl (.of_eq (congrArg pI (w64_for (lo := (w64 (p1 + 1))) (hi := p2) (by omega) hk1 hlt1 (by omega)))) .nil) .nil)
  ·rcases bt (decide (s4.2 > p1)) with h91 | h91
   ·replace hm := if_t h91 hm
    obtain ⟨g92, g93, g94, g95, hm⟩ := go4 hm
    obtain ⟨r96, hr96, hm⟩ := bo hm
    refine RD hnt (nn 13 (o34 [] true r96 :: pT :: [])) [] [(30, pB r96)] [] [] (an3 h91 (an g92.1 (an g92.2 (an h91 (an g93 (an4 h91 (an g94.1 (an g94.2 (an h91 (an g95 (an h91 (an (Less_cmp_intSpec (s4.1.getD (Int.toNat s4.2) 0) (c33e1 s4) r96 hr96) (an h91 tv))))))))))))) ?_
    exact jD r96 hm Conv.eqK
   ·replace hm := if_f h91 hm
    refine RD hnt (nn 4 (sk 10 (pF :: []))) [] [(30, pB false)] [] [] (an5 h91 (an6 h91 tv)) ?_
    exact jD false hm Conv.eqK
 ·intro h75
  have hge1 : ¬ k1 < p2 := by have := of_decide_eq_false h75; omega
  have hm := he1 hge1
  unfold insertionSortOrdered_slices_intD1 at hm
  refine DW.exit ?_
  refine joinQ_exit ?_
  refine KQ_exit ?_
  refine blockQ_exit ?_
  show DW _ _ _ _ _
  refine DW.done ?_
  obtain rfl := sj hm
  exact endK [roI s1] [] (.p (.tup []))
abbrev o33 (ks : List Nat) (b : Bool) (RES : List Int) : Orc := .call 174 ks b (.p (.tup [])) [roI RES] []

abbrev c37e1 (s1 : (List Int) × Int) (p3 : Int) (y4 : Int) := (updF (updF (elI s1.1) (Int.toNat (w64 (p3 + s1.2))) [vi (s1.1.getD (Int.toNat (w64 (p3 + y4))) 0)]) (Int.toNat (w64 (p3 + y4))) (setRange ((updF (elI s1.1) (Int.toNat (w64 (p3 + s1.2))) [vi (s1.1.getD (Int.toNat (w64 (p3 + y4))) 0)]) (Int.toNat (w64 (p3 + y4)))) 0 [vi (s1.1.getD (Int.toNat (w64 (p3 + s1.2))) 0)]))
abbrev c37e2 (s1 : (List Int) × Int) (p3 : Int) (y4 : Int) := ((s1.1.set (Int.toNat (w64 (p3 + s1.2))) (s1.1.getD (Int.toNat (w64 (p3 + y4))) 0)).set (Int.toNat (w64 (p3 + y4))) (s1.1.getD (Int.toNat (w64 (p3 + s1.2))) 0))
abbrev c37e3 (s1 : (List Int) × Int) := (w64 ((w64 (2 * s1.2)) + 1))
theorem siftDownOrdered_slices_intSpec (p0 : List Int) (p1 : Int) (p2 : Int) (p3 : Int) (RES : List Int) (hm : siftDownOrdered_slices_int p0 p1 p2 p3 = some RES) : Spec Tryz.prog 185 [ow 0 p0.length, pI p1, pI p2, pI p3] [roI p0] (.p (.tup [])) [roI RES] [] := by
 unfold siftDownOrdered_slices_int at hm
 refine SO Tryz.func185 rfl rfl [(0, ow 0 p0.length), (1, pI p1), (2, pI p2), (3, pI p3)] [(0, ob0 (roI p0))] ?_
 intro cx hnt
 refine Sq (RD hnt (nn 2 []) [1] [(8, pI p1)] [] [] tv ?_)
 refine Bk ?_
 refine DW.whileO (fun (s1 : (List Int) × Int) => mkSt [(0, ow 0 s1.1.length), (2, pI p2), (3, pI p3), (8, pI s1.2)] [(0, ob0 (roI s1.1))]) hm Conv.eqK ?_
 intro s1 n1 hm
 unfold siftDownOrdered_slices_intL1 at hm
 refine Bk ?_
 refine Sq (RD hnt (nn 4 []) [] [(9, pI (c37e3 s1))] [] [] tv ?_)
 refine Sq (Sq (RD hnt (nn 3 []) [] [(16, pB (decide ((c37e3 s1) ≥ p2)))] [] [] tv ?_))
 refine condM hm ?_ ?_
 ·intro h23 hm
  refine DW.exit ?_
  refine blockQ_other (by decide) ?_
  refine KQ_exit ?_
  refine joinQ_exit ?_
  refine KQ_exit ?_
  refine blockQ_exit ?_
  show DW _ _ _ _ _
  refine DW.done ?_
  obtain rfl := sj hm
  exact endK [roI s1.1] [] (.p (.tup []))
 ·intro h23 hm
  refine Sk ?_
  refine Sq (Sq ?_)
  refine Jn (ι := Bool) (fun (y3 : Bool) => mkSt [(0, ow 0 s1.1.length), (2, pI p2), (3, pI p3), (8, pI s1.2), (9, pI (c37e3 s1)), (36, pB y3)] [(0, ob0 (roI s1.1))]) (fun y3 => (siftDownOrdered_slices_intJ3 p3 s1 n1) y3 = some RES) ?_ ?_
  ·intro y3 hm
   unfold siftDownOrdered_slices_intJ3 at hm
   refine Jn (ι := Int) (fun (y4 : Int) => mkSt [(0, ow 0 s1.1.length), (2, pI p2), (3, pI p3), (8, pI s1.2), (9, pI y4)] [(0, ob0 (roI s1.1))]) (fun y4 => (siftDownOrdered_slices_intJ4 p3 s1 n1) y4 = some RES) ?_ ?_
   ·intro y4 hm
    unfold siftDownOrdered_slices_intJ4 at hm
    obtain ⟨g31, g32, g33, g34, hm⟩ := go4 hm
    obtain ⟨r35, hr35, hm⟩ := bo hm
    refine Sq (Sq (RD hnt (nn 12 (o34 [] true r35 :: .no :: [])) [] [(52, pB (!r35))] [] [] (an g31.1 (an g31.2 (an g32 (an g33.1 (an g33.2 (an g34 (an (Less_cmp_intSpec (s1.1.getD (Int.toNat (w64 (p3 + s1.2))) 0) (s1.1.getD (Int.toNat (w64 (p3 + y4))) 0) r35 hr35) tv))))))) ?_))
    refine condM hm ?_ ?_
    ·intro h36 hm
     obtain rfl := sj hm
     exact DW.ret (retK [roI s1.1] [] (.p (.tup [])))
    ·intro h36 hm
     refine Sk ?_
     obtain ⟨g37, g38, g39, g40, hm⟩ := go4 hm
     obtain ⟨g41, g42, g43, g44, hm⟩ := go4 hm
     refine Sq (RN hnt (nn 24 []) [(0, ow 0 (c37e2 s1 p3 y4).length), (2, pI p2), (3, pI p3), (9, pI y4)] [(0, ob0 (roI (c37e2 s1 p3 y4)))] [(0, ow 0 s1.1.length)] [(0, .row 1 s1.1.length (c37e1 s1 p3 y4))] (an g37.1 (an g37.2 (an g38 (an g39.1 (an g39.2 (an g40 (an g41.1 (an g41.2 (an g42 (an g43.1 (an g43.2 (an g44 tv)))))))))))) (by kernel_rfl) (.cons rfl (MLe.ownLen (enc := encI) (d := 0) (f := (c37e1 s1 p3 y4)) (RowIs.updR (RowIs.upd RowIs.elems (s1.1.getD (Int.toNat (w64 (p3 + y4))) 0) rfl) (by omega) (s1.1.getD (Int.toNat (w64 (p3 + s1.2))) 0) rfl)) .nil) (.cons rfl (BLe.typed (RowIs.updR (RowIs.upd RowIs.elems (s1.1.getD (Int.toNat (w64 (p3 + y4))) 0) rfl) (by omega) (s1.1.getD (Int.toNat (w64 (p3 + s1.2))) 0) rfl)) .nil) ?_)
     refine RD hnt (nn 2 []) [9] [(8, pI y4)] [] [] tv ?_
     refine DW.done ?_
     show DW _ _ _ _ _
     exact jD ((c37e2 s1 p3 y4), y4) hm Conv.eqK
   ·refine condM hm ?_ ?_
    ·intro h30 hm
     refine RD hnt (nn 3 []) [36] [(9, pI (w64 ((c37e3 s1) + 1)))] [] [] tv ?_
     exact jD (w64 ((c37e3 s1) + 1)) hm Conv.eqK
    ·intro h30 hm
     refine Sk ?_
     exact jD (c37e3 s1) hm Conv.t0
  ·rcases bt (decide ((w64 ((c37e3 s1) + 1)) < p2)) with h24 | h24
   ·replace hm := if_t h24 hm
    obtain ⟨g25, g26, g27, g28, hm⟩ := go4 hm
    obtain ⟨r29, hr29, hm⟩ := bo hm
    refine RD hnt (nn 18 (o34 [] true r29 :: pT :: [])) [16] [(36, pB r29)] [] [] (an5 h24 (an g25.1 (an g25.2 (an h24 (an g26 (an6 h24 (an g27.1 (an g27.2 (an h24 (an g28 (an h24 (an (Less_cmp_intSpec (s1.1.getD (Int.toNat (w64 (p3 + (c37e3 s1)))) 0) (s1.1.getD (Int.toNat (w64 ((w64 (p3 + (c37e3 s1))) + 1))) 0) r29 hr29) (an h24 tv))))))))))))) ?_
    exact jD r29 hm Conv.eqK
   ·replace hm := if_f h24 hm
    refine RD hnt (nn 5 (sk 14 (pF :: []))) [16] [(36, pB false)] [] [] (an3 h24 (an6 h24 (an6 h24 tv))) ?_
    exact jD false hm Conv.eqK
abbrev o37 (ks : List Nat) (b : Bool) (RES : List Int) : Orc := .call 185 ks b (.p (.tup [])) [roI RES] []

abbrev c36e1 (s3 : (List Int) × Int) (p1 : Int) := ((s3.1.set (Int.toNat p1) (s3.1.getD (Int.toNat (w64 (p1 + s3.2))) 0)).set (Int.toNat (w64 (p1 + s3.2))) (s3.1.getD (Int.toNat p1) 0))
abbrev c36e2 (s3 : (List Int) × Int) (p1 : Int) := (updF (updF (elI s3.1) (Int.toNat p1) [vi (s3.1.getD (Int.toNat (w64 (p1 + s3.2))) 0)]) (Int.toNat (w64 (p1 + s3.2))) (setRange ((updF (elI s3.1) (Int.toNat p1) [vi (s3.1.getD (Int.toNat (w64 (p1 + s3.2))) 0)]) (Int.toNat (w64 (p1 + s3.2)))) 0 [vi (s3.1.getD (Int.toNat p1) 0)]))
theorem heapSortOrdered_slices_intSpec (p0 : List Int) (p1 : Int) (p2 : Int) (RES : List Int) (hm : heapSortOrdered_slices_int p0 p1 p2 = some RES) : Spec Tryz.prog 175 [ow 0 p0.length, pI p1, pI p2] [roI p0] (.p (.tup [])) [roI RES] [] := by
 unfold heapSortOrdered_slices_int at hm
 refine SO Tryz.func175 rfl rfl [(0, ow 0 p0.length), (1, pI p1), (2, pI p2)] [(0, ob0 (roI p0))] ?_
 intro cx hnt
 refine Sq (RD hnt (nn 2 []) [] [(6, pI p1)] [] [] tv ?_)
 refine Sq (RD hnt (.no :: []) [] [(7, pI 0)] [] [] tv ?_)
 refine Sq (RD hnt (nn 4 []) [1, 2] [(8, pI (w64 (p2 - p1)))] [] [] tv ?_)
 refine Sq (Sq (RD hnt (nn 4 []) [] [(9, pI (w64 (Int.tdiv (w64 ((w64 (p2 - p1)) - 1)) 2)))] [] [] (an (by decide : (2 : Int) ≠ 0) tv) ?_))
 refine Bk ?_
 refine DW.whileO (fun (s1 : (List Int) × Int) => mkSt [(0, ow 0 s1.1.length), (6, pI p1), (7, pI 0), (8, pI (w64 (p2 - p1))), (9, pI s1.2)] [(0, ob0 (roI s1.1))]) hm Conv.eqK ?_
 intro s1 n1 hm
 unfold heapSortOrdered_slices_intL1 at hm
 refine Sq (Sq (RD hnt (nn 2 []) [] [(19, pB (decide (s1.2 ≥ 0)))] [] [] tv ?_))
 refine condM hm ?_ ?_
 ·intro h26 hm
  refine Sk ?_
  refine Sq (Bk ?_)
  obtain ⟨r27, hr27, hm⟩ := bo hm
  obtain ⟨g28, hm⟩ := go1 hm
  refine RN hnt (nn 4 (o37 [0] true r27 :: [])) [(0, ow 0 r27.length), (6, pI p1), (7, pI 0), (8, pI (w64 (p2 - p1))), (9, pI s1.2)] [(0, ob0 (roI r27))] [(0, ow 0 s1.1.length)] [] (an (siftDownOrdered_slices_intSpec s1.1 s1.2 (w64 (p2 - p1)) p1 r27 hr27) (an (⟨rfl, g28⟩ : Body.same (roI s1.1) (roI r27)) tv)) (by kernel_rfl) (.cons rfl (MLe.of_eq (congrArg (MV.own 0 0 0) g28)) .nil) .nil ?_
  refine DW.done ?_
  show DW _ _ _ _ _
  refine RD hnt (nn 3 []) [] [(9, pI (w64 (s1.2 - 1)))] [] [] tv ?_
  exact jD (r27, (w64 (s1.2 - 1))) hm Conv.eqK
 ·intro h26 hm
  refine DW.exit ?_
  refine joinQ_exit ?_
  refine KQ_exit ?_
  refine blockQ_exit ?_
  show DW _ _ _ _ _
  refine Sq (RD hnt (nn 3 []) [8, 9, 19] [(10, pI (w64 ((w64 (p2 - p1)) - 1)))] [] [] tv ?_)
  refine Bk ?_
  refine DW.whileO (fun (s3 : (List Int) × Int) => mkSt [(0, ow 0 s3.1.length), (6, pI p1), (7, pI 0), (10, pI s3.2)] [(0, ob0 (roI s3.1))]) hm Conv.eqK ?_
  intro s3 n3 hm
  unfold heapSortOrdered_slices_intL3 at hm
  refine Sq (Sq (RD hnt (nn 2 []) [] [(30, pB (decide (s3.2 ≥ 0)))] [] [] tv ?_))
  refine condM hm ?_ ?_
  ·intro h40 hm
   refine Sk ?_
   refine Sq (Bk ?_)
   obtain ⟨g41, g42, g43, g44, hm⟩ := go4 hm
   obtain ⟨g45, g46, g47, g48, hm⟩ := go4 hm
   refine Sq (RN hnt (nn 20 []) [(0, ow 0 (c36e1 s3 p1).length), (6, pI p1), (7, pI 0), (10, pI s3.2)] [(0, ob0 (roI (c36e1 s3 p1)))] [(0, ow 0 s3.1.length)] [(0, .row 1 s3.1.length (c36e2 s3 p1))] (an g41.1 (an g41.2 (an g42 (an g43.1 (an g43.2 (an g44 (an g45.1 (an g45.2 (an g46 (an g47.1 (an g47.2 (an g48 tv)))))))))))) (by kernel_rfl) (.cons rfl (MLe.ownLen (enc := encI) (d := 0) (f := (c36e2 s3 p1)) (RowIs.updR (RowIs.upd RowIs.elems (s3.1.getD (Int.toNat (w64 (p1 + s3.2))) 0) rfl) (by omega) (s3.1.getD (Int.toNat p1) 0) rfl)) .nil) (.cons rfl (BLe.typed (RowIs.updR (RowIs.upd RowIs.elems (s3.1.getD (Int.toNat (w64 (p1 + s3.2))) 0) rfl) (by omega) (s3.1.getD (Int.toNat p1) 0) rfl)) .nil) ?_)
   obtain ⟨r49, hr49, hm⟩ := bo hm
   obtain ⟨g50, hm⟩ := go1 hm
   refine RN hnt (nn 4 (o37 [0] true r49 :: [])) [(0, ow 0 r49.length), (6, pI p1), (7, pI 0), (10, pI s3.2)] [(0, ob0 (roI r49))] [(0, ow 0 (c36e1 s3 p1).length)] [] (an (siftDownOrdered_slices_intSpec (c36e1 s3 p1) 0 s3.2 p1 r49 hr49) (an (⟨rfl, g50⟩ : Body.same (roI (c36e1 s3 p1)) (roI r49)) tv)) (by kernel_rfl) (.cons rfl (MLe.of_eq (congrArg (MV.own 0 0 0) g50)) .nil) .nil ?_
   refine DW.done ?_
   show DW _ _ _ _ _
   refine RD hnt (nn 3 []) [] [(10, pI (w64 (s3.2 - 1)))] [] [] tv ?_
   exact jD (r49, (w64 (s3.2 - 1))) hm Conv.eqK
  ·intro h40 hm
   refine DW.exit ?_
   refine joinQ_exit ?_
   refine KQ_exit ?_
   refine blockQ_exit ?_
   show DW _ _ _ _ _
   refine DW.done ?_
   obtain rfl := sj hm
   exact endK [roI s3.1] [] (.p (.tup []))
abbrev o36 (ks : List Nat) (b : Bool) (RES : List Int) : Orc := .call 175 ks b (.p (.tup [])) [roI RES] []

theorem order2Ordered_slices_intSpec (p0 : List Int) (p1 : Int) (p2 : Int) (p3 : Int) (RES : Int × Int × Int) (hm : order2Ordered_slices_int p0 p1 p2 p3 = some RES) : Spec Tryz.prog 191 [.p (slI p0), pI p1, pI p2, rr 0] [.box [pI p3]] (.p (.tup [vi RES.1, vi RES.2.1])) [.box [pI RES.2.2]] [] := by
 unfold order2Ordered_slices_int at hm
 refine SO Tryz.func191 rfl rfl [(0, .p (slI p0)), (1, pI p1), (2, pI p2), (3, rr 0)] [(0, bx [pI p3])] ?_
 intro cx hnt
 refine Sq (RD hnt (nn 2 []) [] [] [] [] tv ?_)
 obtain ⟨g1, g2, hm⟩ := go2 hm
 obtain ⟨r3, hr3, hm⟩ := bo hm
 refine Sq (Sq (RD hnt (nn 8 (o34 [] true r3 :: [])) [0] [(18, pB r3)] [] [] (an g1.1 (an g1.2 (an g2.1 (an g2.2 (an (Less_cmp_intSpec (p0.getD (Int.toNat p2) 0) (p0.getD (Int.toNat p1) 0) r3 hr3) tv))))) ?_))
 refine condM hm ?_ ?_
 ·intro h4 hm
  refine Sq (RD hnt (nn 6 []) [3, 18] [] [] [(0, bx [pI (w64 (p3 + 1))])] tv ?_)
  refine Sq (RD hnt (nn 4 []) [1, 2] [(8, pI p2), (9, pI p1)] [] [] tv ?_)
  obtain rfl := sj hm
  exact DW.ret (retK [.box [pI (w64 (p3 + 1))]] [] (.p (.tup [vi p2, vi p1])))
 ·intro h4 hm
  refine Sk ?_
  refine Sq (RK hnt (nn 4 []) [(8, pI p1), (9, pI p2)] [(0, bx [pI p3])] tv ?_)
  obtain rfl := sj hm
  exact DW.ret (retK [.box [pI p3]] [] (.p (.tup [vi p1, vi p2])))
abbrev o41 (ks : List Nat) (b : Bool) (RES : Int × Int × Int) : Orc := .call 191 ks b (.p (.tup [vi RES.1, vi RES.2.1])) [.box [pI RES.2.2]] []

theorem medianOrdered_slices_intSpec (p0 : List Int) (p1 : Int) (p2 : Int) (p3 : Int) (p4 : Int) (RES : Int × Int) (hm : medianOrdered_slices_int p0 p1 p2 p3 p4 = some RES) : Spec Tryz.prog 189 [.p (slI p0), pI p1, pI p2, pI p3, rr 0] [.box [pI p4]] (pI RES.1) [.box [pI RES.2]] [] := by
 unfold medianOrdered_slices_int at hm
 refine SO Tryz.func189 rfl rfl [(0, .p (slI p0)), (1, pI p1), (2, pI p2), (3, pI p3), (4, rr 0)] [(0, bx [pI p4])] ?_
 intro cx hnt
 refine Sq (RD hnt (.no :: []) [] [] [] [] tv ?_)
 obtain ⟨r1, hr1, hm⟩ := bo hm
 refine Sq (RD hnt (nn 4 (o41 [0] true r1 :: nn 5 [])) [] [(1, pI r1.1), (2, pI r1.2.1)] [] [(0, bx [pI r1.2.2])] (an (order2Ordered_slices_intSpec p0 p1 p2 p4 r1 hr1) (an tv tv)) ?_)
 obtain ⟨r2, hr2, hm⟩ := bo hm
 refine Sq (RD hnt (nn 4 (o41 [0] true r2 :: nn 5 [])) [3] [(2, pI r2.1)] [] [(0, bx [pI r2.2.2])] (an (order2Ordered_slices_intSpec p0 r1.2.1 p3 r1.2.2 r2 hr2) (an tv tv)) ?_)
 obtain ⟨r3, hr3, hm⟩ := bo hm
 refine Sq (RK hnt (nn 4 (o41 [0] true r3 :: nn 5 [])) [(2, pI r3.2.1)] [(0, bx [pI r3.2.2])] (an (order2Ordered_slices_intSpec p0 r1.1 r2.1 r2.2.2 r3 hr3) (an tv tv)) ?_)
 refine Sq (RD hnt (nn 2 []) [2] [(10, pI r3.2.1)] [] [] tv ?_)
 obtain rfl := sj hm
 exact DW.ret (retK [.box [pI r3.2.2]] [] (pI r3.2.1))
abbrev o40 (ks : List Nat) (b : Bool) (RES : Int × Int) : Orc := .call 189 ks b (pI RES.1) [.box [pI RES.2]] []

theorem medianAdjacentOrdered_slices_intSpec (p0 : List Int) (p1 : Int) (p2 : Int) (RES : Int × Int) (hm : medianAdjacentOrdered_slices_int p0 p1 p2 = some RES) : Spec Tryz.prog 188 [.p (slI p0), pI p1, rr 0] [.box [pI p2]] (pI RES.1) [.box [pI RES.2]] [] := by
 unfold medianAdjacentOrdered_slices_int at hm
 refine SO Tryz.func188 rfl rfl [(0, .p (slI p0)), (1, pI p1), (2, rr 0)] [(0, bx [pI p2])] ?_
 intro cx hnt
 refine Sq (RD hnt (.no :: []) [] [] [] [] tv ?_)
 obtain ⟨r1, hr1, hm⟩ := bo hm
 refine Sq (RK hnt (nn 7 (o40 [0] true r1 :: .no :: [])) [(6, pI r1.1)] [(0, bx [pI r1.2])] (an (medianOrdered_slices_intSpec p0 (w64 (p1 - 1)) p1 (w64 (p1 + 1)) p2 r1 hr1) (an tv tv)) ?_)
 obtain rfl := sj hm
 exact DW.ret (retK [.box [pI r1.2]] [] (pI r1.1))
abbrev o39 (ks : List Nat) (b : Bool) (RES : Int × Int) : Orc := .call 188 ks b (pI RES.1) [.box [pI RES.2]] []

abbrev c38e1 (p2 : Int) (p1 : Int) := (w64 (Int.tdiv (w64 (p2 - p1)) 4))
abbrev c38e2 (p1 : Int) (p2 : Int) := (w64 (p1 + (w64 ((c38e1 p2 p1) * 2))))
theorem choosePivotOrdered_slices_intSpec (p0 : List Int) (p1 : Int) (p2 : Int) (RES : Int × Int) (hm : choosePivotOrdered_slices_int p0 p1 p2 = some RES) : Spec Tryz.prog 177 [.p (slI p0), pI p1, pI p2] [] (.p (.tup [vi RES.1, vi RES.2])) [] [] := by
 unfold choosePivotOrdered_slices_int at hm
 refine SO Tryz.func177 rfl rfl [(0, .p (slI p0)), (1, pI p1), (2, pI p2)] [] ?_
 intro cx hnt
 refine Sq (RD hnt (nn 2 []) [] [] [] [] tv ?_)
 refine Sq (RD hnt (nn 4 []) [2] [(8, pI (w64 (p2 - p1)))] [] [] tv ?_)
 refine Sq (RD hnt (.no :: []) [] [(9, rr 1072)] [] [(1072, bx [pI 0])] tv ?_)
 refine Sq (RD hnt (nn 6 []) [] [(10, pI (w64 (p1 + (w64 ((c38e1 p2 p1) * 1)))))] [] [] (an (by decide : (4 : Int) ≠ 0) tv) ?_)
 refine Sq (RD hnt (nn 6 []) [] [(11, pI (c38e2 p1 p2))] [] [] (an (by decide : (4 : Int) ≠ 0) tv) ?_)
 refine Sq (RD hnt (nn 6 []) [1] [(12, pI (w64 (p1 + (w64 ((c38e1 p2 p1) * 3)))))] [] [] (an (by decide : (4 : Int) ≠ 0) tv) ?_)
 refine Sq (Sq (RD hnt (nn 2 []) [] [(32, pB (decide ((w64 (p2 - p1)) ≥ 8)))] [] [] tv ?_))
 refine Jn (ι := Int × Int) (fun (y1 : Int × Int) => mkSt [(9, rr 1072), (11, pI y1.2)] [(1072, bx [pI y1.1])]) (fun y1 => choosePivotOrdered_slices_intJ1 y1 = some RES) ?_ ?_
 ·intro y1 hm
  unfold choosePivotOrdered_slices_intJ1 at hm
  refine Sq (RK hnt (.no :: []) [(11, pI y1.2), (49, pI y1.1)] [] tv ?_)
  refine Bk ?_
  refine Sq (RD hnt (nn 2 []) [] [(51, pB (y1.1 == 0))] [] [] tv ?_)
  refine condM hm ?_ ?_
  ·intro h7 hm
   refine Sq (RK hnt (nn 3 []) [(6, pI y1.2), (7, pI 1)] [] tv ?_)
   obtain rfl := sj hm
   exact DW.ret (retK [] [] (.p (.tup [vi y1.2, vi 1])))
  ·intro h7 hm
   refine Sq (RK hnt (nn 2 []) [(11, pI y1.2), (54, pB (y1.1 == 12))] [] tv ?_)
   refine condM hm ?_ ?_
   ·intro h8 hm
    refine Sq (RK hnt (nn 3 []) [(6, pI y1.2), (7, pI 2)] [] tv ?_)
    obtain rfl := sj hm
    exact DW.ret (retK [] [] (.p (.tup [vi y1.2, vi 2])))
   ·intro h8 hm
    refine Sq (RK hnt (nn 3 []) [(6, pI y1.2), (7, pI 0)] [] tv ?_)
    obtain rfl := sj hm
    exact DW.ret (retK [] [] (.p (.tup [vi y1.2, vi 0])))
 ·refine condM hm ?_ ?_
  ·intro h1 hm
   refine Sq (Sq (RD hnt (nn 2 []) [8, 32] [(34, pB (decide ((w64 (p2 - p1)) ≥ 50)))] [] [] tv ?_))
   refine Jn (ι := Int × Int × Int × Int) (fun (y2 : Int × Int × Int × Int) => mkSt [(0, .p (slI p0)), (9, rr 1072), (10, pI y2.2.1), (11, pI y2.2.2.1), (12, pI y2.2.2.2)] [(1072, bx [pI y2.1])]) (fun y2 => (choosePivotOrdered_slices_intJ2 p0) y2 = some RES) ?_ ?_
   ·intro y2 hm
    unfold choosePivotOrdered_slices_intJ2 at hm
    obtain ⟨r6, hr6, hm⟩ := bo hm
    refine RK hnt (nn 4 (o40 [1072] true r6 :: .no :: [])) [(9, rr 1072), (11, pI r6.1)] [(1072, bx [pI r6.2])] (an (medianOrdered_slices_intSpec p0 y2.2.1 y2.2.2.1 y2.2.2.2 y2.1 r6 hr6) (an tv tv)) ?_
    exact jD (r6.2, r6.1) hm .refl
   ·refine condM hm ?_ ?_
    ·intro h2 hm
     obtain ⟨r3, hr3, hm⟩ := bo hm
     refine Sq (RK hnt (nn 2 (o39 [1072] true r3 :: .no :: [])) [(0, .p (slI p0)), (9, rr 1072), (10, pI r3.1), (11, pI (c38e2 p1 p2)), (12, pI (w64 (p1 + (w64 ((c38e1 p2 p1) * 3)))))] [(1072, bx [pI r3.2])] (an (medianAdjacentOrdered_slices_intSpec p0 (w64 (p1 + (w64 ((c38e1 p2 p1) * 1)))) 0 r3 hr3) (an tv tv)) ?_)
     obtain ⟨r4, hr4, hm⟩ := bo hm
     refine Sq (RD hnt (nn 2 (o39 [1072] true r4 :: .no :: [])) [] [(11, pI r4.1)] [] [(1072, bx [pI r4.2])] (an (medianAdjacentOrdered_slices_intSpec p0 (c38e2 p1 p2) r3.2 r4 hr4) (an tv tv)) ?_)
     obtain ⟨r5, hr5, hm⟩ := bo hm
     refine RD hnt (nn 2 (o39 [1072] true r5 :: .no :: [])) [] [(12, pI r5.1)] [] [(1072, bx [pI r5.2])] (an (medianAdjacentOrdered_slices_intSpec p0 (w64 (p1 + (w64 ((c38e1 p2 p1) * 3)))) r4.2 r5 hr5) (an tv tv)) ?_
     exact jD (r5.2, r3.1, r4.1, r5.1) hm Conv.eqK
    ·intro h2 hm
     refine Sk ?_
     exact jD (0, (w64 (p1 + (w64 ((c38e1 p2 p1) * 1)))), (c38e2 p1 p2), (w64 (p1 + (w64 ((c38e1 p2 p1) * 3))))) hm Conv.t0
  ·intro h1 hm
   refine Sk ?_
   exact jD (0, (c38e2 p1 p2)) hm Conv.t0
abbrev o38 (ks : List Nat) (b : Bool) (RES : Int × Int) : Orc := .call 177 ks b (.p (.tup [vi RES.1, vi RES.2])) [] []

abbrev c42e1 (s1 : (List Int) × Int × Int) := (updF (updF (elI s1.1) (Int.toNat s1.2.1) [vi (s1.1.getD (Int.toNat s1.2.2) 0)]) (Int.toNat s1.2.2) (setRange ((updF (elI s1.1) (Int.toNat s1.2.1) [vi (s1.1.getD (Int.toNat s1.2.2) 0)]) (Int.toNat s1.2.2)) 0 [vi (s1.1.getD (Int.toNat s1.2.1) 0)]))
abbrev c42e2 (s1 : (List Int) × Int × Int) := ((s1.1.set (Int.toNat s1.2.1) (s1.1.getD (Int.toNat s1.2.2) 0)).set (Int.toNat s1.2.2) (s1.1.getD (Int.toNat s1.2.1) 0))
theorem reverseRangeOrdered_slices_intSpec (p0 : List Int) (p1 : Int) (p2 : Int) (RES : List Int) (hm : reverseRangeOrdered_slices_int p0 p1 p2 = some RES) : Spec Tryz.prog 178 [ow 0 p0.length, pI p1, pI p2] [roI p0] (.p (.tup [])) [roI RES] [] := by
 unfold reverseRangeOrdered_slices_int at hm
 refine SO Tryz.func178 rfl rfl [(0, ow 0 p0.length), (1, pI p1), (2, pI p2)] [(0, ob0 (roI p0))] ?_
 intro cx hnt
 refine Sq (RD hnt (nn 2 []) [1] [(6, pI p1)] [] [] tv ?_)
 refine Sq (RD hnt (nn 3 []) [2] [(7, pI (w64 (p2 - 1)))] [] [] tv ?_)
 refine Bk ?_
 refine DW.whileO (fun (s1 : (List Int) × Int × Int) => mkSt [(0, ow 0 s1.1.length), (6, pI s1.2.1), (7, pI s1.2.2)] [(0, ob0 (roI s1.1))]) hm Conv.eqK ?_
 intro s1 n1 hm
 unfold reverseRangeOrdered_slices_intL1 at hm
 refine Sq (Sq (RD hnt (nn 3 []) [] [(13, pB (decide (s1.2.1 < s1.2.2)))] [] [] tv ?_))
 refine condM hm ?_ ?_
 ·intro h10 hm
  refine Sk ?_
  refine Bk ?_
  obtain ⟨g11, g12, g13, g14, hm⟩ := go4 hm
  obtain ⟨g15, g16, g17, g18, hm⟩ := go4 hm
  refine Sq (RN hnt (nn 16 []) [(0, ow 0 (c42e2 s1).length), (6, pI s1.2.1), (7, pI s1.2.2)] [(0, ob0 (roI (c42e2 s1)))] [(0, ow 0 s1.1.length)] [(0, .row 1 s1.1.length (c42e1 s1))] (an g11.1 (an g11.2 (an g12 (an g13.1 (an g13.2 (an g14 (an g15.1 (an g15.2 (an g16 (an g17.1 (an g17.2 (an g18 tv)))))))))))) (by kernel_rfl) (.cons rfl (MLe.ownLen (enc := encI) (d := 0) (f := (c42e1 s1)) (RowIs.updR (RowIs.upd RowIs.elems (s1.1.getD (Int.toNat s1.2.2) 0) rfl) (by omega) (s1.1.getD (Int.toNat s1.2.1) 0) rfl)) .nil) (.cons rfl (BLe.typed (RowIs.updR (RowIs.upd RowIs.elems (s1.1.getD (Int.toNat s1.2.2) 0) rfl) (by omega) (s1.1.getD (Int.toNat s1.2.1) 0) rfl)) .nil) ?_)
  refine Sq (RD hnt (nn 3 []) [] [(6, pI (w64 (s1.2.1 + 1)))] [] [] tv ?_)
  refine RD hnt (nn 3 []) [] [(7, pI (w64 (s1.2.2 - 1)))] [] [] tv ?_
  refine DW.done ?_
  show DW _ _ _ _ _
  exact jD ((c42e2 s1), (w64 (s1.2.1 + 1)), (w64 (s1.2.2 - 1))) hm Conv.eqK
 ·intro h10 hm
  refine DW.exit ?_
  refine joinQ_exit ?_
  refine KQ_exit ?_
  refine blockQ_exit ?_
  show DW _ _ _ _ _
  refine DW.done ?_
  obtain rfl := sj hm
  exact endK [roI s1.1] [] (.p (.tup []))
abbrev o42 (ks : List Nat) (b : Bool) (RES : List Int) : Orc := .call 178 ks b (.p (.tup [])) [roI RES] []

abbrev c43e1 (s15 : (List Int) × Int) := (s15.1.getD (Int.toNat (w64 (s15.2 - 1))) 0)
abbrev c43e2 (s1 : (List Int) × Int) (s12 : Int) := (updF (updF (elI s1.1) (Int.toNat s12) [vi (s1.1.getD (Int.toNat (w64 (s12 - 1))) 0)]) (Int.toNat (w64 (s12 - 1))) (setRange ((updF (elI s1.1) (Int.toNat s12) [vi (s1.1.getD (Int.toNat (w64 (s12 - 1))) 0)]) (Int.toNat (w64 (s12 - 1)))) 0 [vi (s1.1.getD (Int.toNat s12) 0)]))
abbrev c43e3 (s16 : List Int) (k16 : Int) := (updF (updF (elI s16) (Int.toNat k16) [vi (s16.getD (Int.toNat (w64 (k16 - 1))) 0)]) (Int.toNat (w64 (k16 - 1))) (setRange ((updF (elI s16) (Int.toNat k16) [vi (s16.getD (Int.toNat (w64 (k16 - 1))) 0)]) (Int.toNat (w64 (k16 - 1)))) 0 [vi (s16.getD (Int.toNat k16) 0)]))
abbrev c43e4 (s1 : (List Int) × Int) (s12 : Int) := ((s1.1.set (Int.toNat s12) (s1.1.getD (Int.toNat (w64 (s12 - 1))) 0)).set (Int.toNat (w64 (s12 - 1))) (s1.1.getD (Int.toNat s12) 0))
abbrev c43e5 (s16 : List Int) (k16 : Int) := ((s16.set (Int.toNat k16) (s16.getD (Int.toNat (w64 (k16 - 1))) 0)).set (Int.toNat (w64 (k16 - 1))) (s16.getD (Int.toNat k16) 0))
abbrev c43e6 (s15 : (List Int) × Int) := (updF (updF (elI s15.1) (Int.toNat s15.2) [vi (c43e1 s15)]) (Int.toNat (w64 (s15.2 - 1))) (setRange ((updF (elI s15.1) (Int.toNat s15.2) [vi (c43e1 s15)]) (Int.toNat (w64 (s15.2 - 1)))) 0 [vi (s15.1.getD (Int.toNat s15.2) 0)]))
abbrev c43e7 (s15 : (List Int) × Int) := ((s15.1.set (Int.toNat s15.2) (c43e1 s15)).set (Int.toNat (w64 (s15.2 - 1))) (s15.1.getD (Int.toNat s15.2) 0))
theorem partialInsertionSortOrdered_slices_intSpec (p0 : List Int) (p1 : Int) (p2 : Int) (RES : Bool × (List Int)) (hm : partialInsertionSortOrdered_slices_int p0 p1 p2 = some RES) : Spec Tryz.prog 179 [ow 0 p0.length, pI p1, pI p2] [roI p0] (pB RES.1) [roI RES.2] [] := by
 unfold partialInsertionSortOrdered_slices_int at hm
 refine SO Tryz.func179 rfl rfl [(0, ow 0 p0.length), (1, pI p1), (2, pI p2)] [(0, ob0 (roI p0))] ?_
 intro cx hnt
 refine Sq (RD hnt (.no :: []) [] [] [] [] tv ?_)
 refine Sq (RD hnt (nn 3 []) [] [(7, pI (w64 (p1 + 1)))] [] [] tv ?_)
 refine Sq (Sq (RD hnt (.no :: []) [] [(8, pI 0)] [] [] tv ?_))
 refine Bk ?_
 refine DW.forO (fun (k1 : Int) (s1 : (List Int) × Int) => mkSt [(0, ow 0 s1.1.length), (1, pI p1), (2, pI p2), (7, pI s1.2), (8, pI k1)] [(0, ob0 (roI s1.1))]) (lo := 0) (hi := 5) hm Conv.eqK ?_
 intro k1 s1 n1 hk1 hs1 he1
 refine Sq (Sq (RD hnt (nn 2 []) [] [(14, pB (decide (k1 < 5)))] [] [] tv ?_))
 refine condK (decide (k1 < 5)) ?_ ?_
 ·intro h391
  have hlt1 : k1 < 5 := by have := of_decide_eq_true h391; omega
  have hm := hs1 hlt1
  unfold partialInsertionSortOrdered_slices_intL1 at hm
  refine Sk ?_
  refine Sq ?_
  refine Jn (ι := (List Int) × Int) (fun (y11 : (List Int) × Int) => mkSt [(0, ow 0 y11.1.length), (1, pI p1), (2, pI p2), (7, pI y11.2), (8, pI k1)] [(0, ob0 (roI y11.1))]) (fun y11 => (partialInsertionSortOrdered_slices_intJ11 n1) y11 = some RES) ?_ ?_
  ·intro y11 hm
   unfold partialInsertionSortOrdered_slices_intJ11 at hm
   refine RD hnt (nn 3 []) [] [(8, pI (w64 (k1 + 1)))] [] [] tv ?_
   exact jD (y11.1, y11.2) ⟨hlt1, hm⟩ (Conv.tp [(8, pI (w64 (k1 + 1)))] [] (by kernel_rfl) (.cons rfl (.of_eq (congrArg pI (w64_for (lo := 0) (hi := 5) (by omega) hk1 hlt1 (by omega)))) .nil) .nil)
  ·refine Bk ?_
   refine Sq (Bk ?_)
   refine DW.whileO (fun (s12 : Int) => mkSt [(0, ow 0 s1.1.length), (1, pI p1), (2, pI p2), (7, pI s12), (8, pI k1)] [(0, ob0 (roI s1.1))]) hm Conv.t0 ?_
   intro s12 n12 hm
   unfold partialInsertionSortOrdered_slices_intL12 at hm
   refine Sq (Sq ?_)
   refine Jn (ι := Bool) (fun (y14 : Bool) => mkSt [(0, ow 0 s1.1.length), (1, pI p1), (2, pI p2), (7, pI s12), (8, pI k1), (32, pB y14)] [(0, ob0 (roI s1.1))]) (fun y14 => (partialInsertionSortOrdered_slices_intJ14 p1 p2 s1 n1 s12 n12) y14 = some RES) ?_ ?_
   ·intro y14 hm
    unfold partialInsertionSortOrdered_slices_intJ14 at hm
    refine condM hm ?_ ?_
    ·intro h492 hm
     refine Sk ?_
     refine Bk ?_
     refine RD hnt (nn 3 []) [32] [(7, pI (w64 (s12 + 1)))] [] [] tv ?_
     refine DW.done ?_
     show DW _ _ _ _ _
     exact jD (w64 (s12 + 1)) hm Conv.eqK
    ·intro h492 hm
     refine DW.exit ?_
     refine joinQ_exit ?_
     refine KQ_exit ?_
     refine blockQ_exit ?_
     show DW _ _ _ _ _
     refine Sq (Sq (RD hnt (nn 3 []) [32] [(37, pB (s12 == p2))] [] [] tv ?_))
     refine condM hm ?_ ?_
     ·intro h493 hm
      refine Sq (RK hnt (.no :: []) [(6, pB true)] [(0, ob0 (roI s1.1))] tv ?_)
      obtain rfl := sj hm
      exact DW.ret (retK [roI s1.1] [] (pB true))
     ·intro h493 hm
      refine Sk ?_
      refine Sq (Sq (RD hnt (nn 4 []) [37] [(41, pB (decide ((w64 (p2 - p1)) < 50)))] [] [] tv ?_))
      refine condM hm ?_ ?_
      ·intro h494 hm
       refine Sq (RK hnt (.no :: []) [(6, pB false)] [(0, ob0 (roI s1.1))] tv ?_)
       obtain rfl := sj hm
       exact DW.ret (retK [roI s1.1] [] (pB false))
      ·intro h494 hm
       refine Sk ?_
       obtain ⟨g495, g496, g497, g498, hm⟩ := go4 hm
       obtain ⟨g499, g500, g501, g502, hm⟩ := go4 hm
       refine Sq (RN hnt (nn 18 []) [(0, ow 0 (c43e4 s1 s12).length), (1, pI p1), (2, pI p2), (7, pI s12), (8, pI k1)] [(0, ob0 (roI (c43e4 s1 s12)))] [(0, ow 0 s1.1.length)] [(0, .row 1 s1.1.length (c43e2 s1 s12))] (an g495.1 (an g495.2 (an g496 (an g497.1 (an g497.2 (an g498 (an g499.1 (an g499.2 (an g500 (an g501.1 (an g501.2 (an g502 tv)))))))))))) (by kernel_rfl) (.cons rfl (MLe.ownLen (enc := encI) (d := 0) (f := (c43e2 s1 s12)) (RowIs.updR (RowIs.upd RowIs.elems (s1.1.getD (Int.toNat (w64 (s12 - 1))) 0) rfl) (by omega) (s1.1.getD (Int.toNat s12) 0) rfl)) .nil) (.cons rfl (BLe.typed (RowIs.updR (RowIs.upd RowIs.elems (s1.1.getD (Int.toNat (w64 (s12 - 1))) 0) rfl) (by omega) (s1.1.getD (Int.toNat s12) 0) rfl)) .nil) ?_)
       refine Sq (Sq (RD hnt (nn 4 []) [] [(61, pB (decide ((w64 (s12 - p1)) ≥ 2)))] [] [] tv ?_))
       refine Jn (ι := List Int) (fun (y15 : List Int) => mkSt [(0, ow 0 y15.length), (1, pI p1), (2, pI p2), (7, pI s12), (8, pI k1)] [(0, ob0 (roI y15))]) (fun y15 => (partialInsertionSortOrdered_slices_intJ15 p2 n1 s12) y15 = some RES) ?_ ?_
       ·intro y15 hm
        unfold partialInsertionSortOrdered_slices_intJ15 at hm
        refine Sq (RD hnt (nn 4 []) [] [(98, pB (decide ((w64 (p2 - s12)) ≥ 2)))] [] [] tv ?_)
        refine condM hm ?_ ?_
        ·intro h534 hm
         refine Sq (RD hnt (nn 3 []) [98] [(10, pI (w64 (s12 + 1)))] [] [] tv ?_)
         refine Bk ?_
         obtain ⟨hc16, hm⟩ := go1 hm
         refine DW.forO (fun (k16 : Int) (s16 : List Int) => mkSt [(0, ow 0 s16.length), (1, pI p1), (2, pI p2), (7, pI s12), (8, pI k1), (10, pI k16)] [(0, ob0 (roI s16))]) (lo := (w64 (s12 + 1))) (hi := p2) hm Conv.eqK ?_
         intro k16 s16 n16 hk16 hs16 he16
         refine Sq (Sq (RD hnt (nn 3 []) [] [(103, pB (decide (k16 < p2)))] [] [] tv ?_))
         refine condK (decide (k16 < p2)) ?_ ?_
         ·intro h565
          have hlt16 : k16 < p2 := by have := of_decide_eq_true h565; omega
          have hm := hs16 hlt16
          unfold partialInsertionSortOrdered_slices_intL16 at hm
          refine Sk ?_
          refine Sq (Bk ?_)
          obtain ⟨g566, g567, g568, g569, hm⟩ := go4 hm
          obtain ⟨r570, hr570, hm⟩ := bo hm
          refine Sq (Sq (RD hnt (nn 9 (o34 [] true r570 :: .no :: [])) [103] [(116, pB (!r570))] [] [] (an g566.1 (an g566.2 (an g567 (an g568.1 (an g568.2 (an g569 (an (Less_cmp_intSpec (s16.getD (Int.toNat k16) 0) (s16.getD (Int.toNat (w64 (k16 - 1))) 0) r570 hr570) tv))))))) ?_))
          refine condM hm ?_ ?_
          ·intro h571 hm
           refine DW.exit ?_
           refine blockQ_other (by decide) ?_
           refine KQ_exit ?_
           refine joinQ_exit ?_
           refine KQ_exit ?_
           refine blockQ_exit ?_
           show DW _ _ _ _ _
           exact bD (s16, s12) hm Conv.t0
          ·intro h571 hm
           refine Sk ?_
           obtain ⟨g572, g573, g574, g575, hm⟩ := go4 hm
           obtain ⟨g576, g577, g578, g579, hm⟩ := go4 hm
           refine RN hnt (nn 18 []) [(0, ow 0 (c43e5 s16 k16).length), (1, pI p1), (2, pI p2), (7, pI s12), (8, pI k1), (10, pI k16)] [(0, ob0 (roI (c43e5 s16 k16)))] [(0, ow 0 s16.length)] [(0, .row 1 s16.length (c43e3 s16 k16))] (an g572.1 (an g572.2 (an g573 (an g574.1 (an g574.2 (an g575 (an g576.1 (an g576.2 (an g577 (an g578.1 (an g578.2 (an g579 tv)))))))))))) (by kernel_rfl) (.cons rfl (MLe.ownLen (enc := encI) (d := 0) (f := (c43e3 s16 k16)) (RowIs.updR (RowIs.upd RowIs.elems (s16.getD (Int.toNat (w64 (k16 - 1))) 0) rfl) (by omega) (s16.getD (Int.toNat k16) 0) rfl)) .nil) (.cons rfl (BLe.typed (RowIs.updR (RowIs.upd RowIs.elems (s16.getD (Int.toNat (w64 (k16 - 1))) 0) rfl) (by omega) (s16.getD (Int.toNat k16) 0) rfl)) .nil) ?_
           refine DW.done ?_
           show DW _ _ _ _ _
           refine RD hnt (nn 3 []) [] [(10, pI (w64 (k16 + 1)))] [] [] tv ?_
           exact jD (c43e5 s16 k16) ⟨hlt16, hm⟩ (Conv.tp [(10, pI (w64 (k16 + 1)))] [] (by kernel_rfl) (.cons rfl (.of_eq (congrArg pI (w64_for (lo := (w64 (s12 + 1))) (hi := p2) (by omega) hk16 hlt16 (by omega)))) .nil) .nil)
         ·intro h565
          have hge16 : ¬ k16 < p2 := by have := of_decide_eq_false h565; omega
          have hm := he16 hge16
          unfold partialInsertionSortOrdered_slices_intD16 at hm
          refine DW.exit ?_
          refine joinQ_exit ?_
          refine KQ_exit ?_
          refine blockQ_exit ?_
          show DW _ _ _ _ _
          exact bD (s16, s12) hm Conv.t0
        ·intro h534 hm
         refine Sk ?_
         exact bD (y15, s12) hm Conv.t0
       ·refine condM hm ?_ ?_
        ·intro h503 hm
         refine Sq (RD hnt (nn 3 []) [61] [(9, pI (w64 (s12 - 1)))] [] [] tv ?_)
         refine Bk ?_
         refine DW.whileO (fun (s15 : (List Int) × Int) => mkSt [(0, ow 0 s15.1.length), (1, pI p1), (2, pI p2), (7, pI s12), (8, pI k1), (9, pI s15.2)] [(0, ob0 (roI s15.1))]) hm Conv.eqK ?_
         intro s15 n15 hm
         unfold partialInsertionSortOrdered_slices_intL15 at hm
         refine Sq (Sq (RD hnt (nn 2 []) [] [(65, pB (decide (s15.2 ≥ 1)))] [] [] tv ?_))
         refine condM hm ?_ ?_
         ·intro h519 hm
          refine Sk ?_
          refine Sq (Bk ?_)
          obtain ⟨g520, g521, g522, g523, hm⟩ := go4 hm
          obtain ⟨r524, hr524, hm⟩ := bo hm
          refine Sq (Sq (RD hnt (nn 9 (o34 [] true r524 :: .no :: [])) [65] [(78, pB (!r524))] [] [] (an g520.1 (an g520.2 (an g521 (an g522.1 (an g522.2 (an g523 (an (Less_cmp_intSpec (s15.1.getD (Int.toNat s15.2) 0) (c43e1 s15) r524 hr524) tv))))))) ?_))
          refine condM hm ?_ ?_
          ·intro h525 hm
           refine DW.exit ?_
           refine blockQ_other (by decide) ?_
           refine KQ_exit ?_
           refine joinQ_exit ?_
           refine KQ_exit ?_
           refine blockQ_exit ?_
           show DW _ _ _ _ _
           exact jD s15.1 hm Conv.t0
          ·intro h525 hm
           refine Sk ?_
           obtain ⟨g526, g527, g528, g529, hm⟩ := go4 hm
           obtain ⟨g530, g531, g532, g533, hm⟩ := go4 hm
           refine RN hnt (nn 18 []) [(0, ow 0 (c43e7 s15).length), (1, pI p1), (2, pI p2), (7, pI s12), (8, pI k1), (9, pI s15.2)] [(0, ob0 (roI (c43e7 s15)))] [(0, ow 0 s15.1.length)] [(0, .row 1 s15.1.length (c43e6 s15))] (an g526.1 (an g526.2 (an g527 (an g528.1 (an g528.2 (an g529 (an g530.1 (an g530.2 (an g531 (an g532.1 (an g532.2 (an g533 tv)))))))))))) (by kernel_rfl) (.cons rfl (MLe.ownLen (enc := encI) (d := 0) (f := (c43e6 s15)) (RowIs.updR (RowIs.upd RowIs.elems (c43e1 s15) rfl) (by omega) (s15.1.getD (Int.toNat s15.2) 0) rfl)) .nil) (.cons rfl (BLe.typed (RowIs.updR (RowIs.upd RowIs.elems (c43e1 s15) rfl) (by omega) (s15.1.getD (Int.toNat s15.2) 0) rfl)) .nil) ?_
           refine DW.done ?_
           show DW _ _ _ _ _
           refine RD hnt (nn 3 []) [] [(9, pI (w64 (s15.2 - 1)))] [] [] tv ?_
           exact jD ((c43e7 s15), (w64 (s15.2 - 1))) hm Conv.eqK
         ·intro h519 hm
          refine DW.exit ?_
          refine joinQ_exit ?_
          refine KQ_exit ?_
          refine blockQ_exit ?_
          show DW _ _ _ _ _
          exact jD s15.1 hm Conv.t0
        ·intro h503 hm
         refine Sk ?_
         exact jD (c43e4 s1 s12) hm Conv.t0
   ·rcases bt (decide (s12 < p2)) with h486 | h486
    ·replace hm := if_t h486 hm
     obtain ⟨g487, g488, g489, g490, hm⟩ := go4 hm
     obtain ⟨r491, hr491, hm⟩ := bo hm
     refine RD hnt (nn 13 (o34 [] true r491 :: .no :: pT :: [])) [] [(32, pB (!r491))] [] [] (an3 h486 (an g487.1 (an g487.2 (an h486 (an g488 (an4 h486 (an g489.1 (an g489.2 (an h486 (an g490 (an h486 (an (Less_cmp_intSpec (s1.1.getD (Int.toNat s12) 0) (s1.1.getD (Int.toNat (w64 (s12 - 1))) 0) r491 hr491) (an2 h486 tv))))))))))))) ?_
     exact jD (!r491) hm Conv.eqK
    ·replace hm := if_f h486 hm
     refine RD hnt (nn 4 (sk 11 (pF :: []))) [] [(32, pB false)] [] [] (an6 h486 (an6 h486 tv)) ?_
     exact jD false hm Conv.eqK
 ·intro h391
  have hge1 : ¬ k1 < 5 := by have := of_decide_eq_false h391; omega
  have hm := he1 hge1
  unfold partialInsertionSortOrdered_slices_intD1 at hm
  refine DW.exit ?_
  refine joinQ_exit ?_
  refine KQ_exit ?_
  refine blockQ_exit ?_
  show DW _ _ _ _ _
  refine Sq (RK hnt (.no :: []) [(6, pB false)] [(0, ob0 (roI s1.1))] tv ?_)
  obtain rfl := sj hm
  exact DW.ret (retK [roI s1.1] [] (pB false))
abbrev o43 (ks : List Nat) (b : Bool) (RES : Bool × (List Int)) : Orc := .call 179 ks b (pB RES.1) [roI RES.2] []

abbrev c44e1 (p0 : List Int) (p1 : Int) (p3 : Int) := (updF (updF (elI p0) (Int.toNat p1) [vi (p0.getD (Int.toNat p3) 0)]) (Int.toNat p3) (setRange ((updF (elI p0) (Int.toNat p1) [vi (p0.getD (Int.toNat p3) 0)]) (Int.toNat p3)) 0 [vi (p0.getD (Int.toNat p1) 0)]))
abbrev c44e2 (s1 : (List Int) × Int × Int) (s5 : Int) (s7 : Int) := (updF (updF (elI s1.1) (Int.toNat s5) [vi (s1.1.getD (Int.toNat s7) 0)]) (Int.toNat s7) (setRange ((updF (elI s1.1) (Int.toNat s5) [vi (s1.1.getD (Int.toNat s7) 0)]) (Int.toNat s7)) 0 [vi (s1.1.getD (Int.toNat s5) 0)]))
abbrev c44e3 (s1 : (List Int) × Int × Int) (s5 : Int) (s7 : Int) := ((s1.1.set (Int.toNat s5) (s1.1.getD (Int.toNat s7) 0)).set (Int.toNat s7) (s1.1.getD (Int.toNat s5) 0))
theorem partitionEqualOrdered_slices_intSpec (p0 : List Int) (p1 : Int) (p2 : Int) (p3 : Int) (RES : Int × (List Int)) (hm : partitionEqualOrdered_slices_int p0 p1 p2 p3 = some RES) : Spec Tryz.prog 181 [ow 0 p0.length, pI p1, pI p2, pI p3] [roI p0] (pI RES.1) [roI RES.2] [] := by
 unfold partitionEqualOrdered_slices_int at hm
 refine SO Tryz.func181 rfl rfl [(0, ow 0 p0.length), (1, pI p1), (2, pI p2), (3, pI p3)] [(0, ob0 (roI p0))] ?_
 intro cx hnt
 refine Sq (RD hnt (.no :: []) [] [] [] [] tv ?_)
 obtain ⟨g1, g2, g3, g4, hm⟩ := go4 hm
 obtain ⟨g5, g6, g7, g8, hm⟩ := go4 hm
 refine Sq (RN hnt (nn 16 []) [(0, ow 0 ((p0.set (Int.toNat p1) (p0.getD (Int.toNat p3) 0)).set (Int.toNat p3) (p0.getD (Int.toNat p1) 0)).length), (1, pI p1), (2, pI p2)] [(0, ob0 (roI ((p0.set (Int.toNat p1) (p0.getD (Int.toNat p3) 0)).set (Int.toNat p3) (p0.getD (Int.toNat p1) 0))))] [(0, ow 0 p0.length)] [(0, .row 1 p0.length (c44e1 p0 p1 p3))] (an g1.1 (an g1.2 (an g2 (an g3.1 (an g3.2 (an g4 (an g5.1 (an g5.2 (an g6 (an g7.1 (an g7.2 (an g8 tv)))))))))))) (by kernel_rfl) (.cons rfl (MLe.ownLen (enc := encI) (d := 0) (f := (c44e1 p0 p1 p3)) (RowIs.updR (RowIs.upd RowIs.elems (p0.getD (Int.toNat p3) 0) rfl) (by omega) (p0.getD (Int.toNat p1) 0) rfl)) .nil) (.cons rfl (BLe.typed (RowIs.updR (RowIs.upd RowIs.elems (p0.getD (Int.toNat p3) 0) rfl) (by omega) (p0.getD (Int.toNat p1) 0) rfl)) .nil) ?_)
 refine Sq (RD hnt (nn 6 []) [2] [(9, pI (w64 (p1 + 1))), (10, pI (w64 (p2 - 1)))] [] [] tv ?_)
 refine Sq (Bk ?_)
 refine DW.whileO (fun (s1 : (List Int) × Int × Int) => mkSt [(0, ow 0 s1.1.length), (1, pI p1), (9, pI s1.2.2), (10, pI s1.2.1)] [(0, ob0 (roI s1.1))]) hm Conv.eqK ?_
 intro s1 n1 hm
 unfold partitionEqualOrdered_slices_intL1 at hm
 refine Bk ?_
 refine Sq (Bk ?_)
 refine DW.whileO (fun (s5 : Int) => mkSt [(0, ow 0 s1.1.length), (1, pI p1), (9, pI s5), (10, pI s1.2.1)] [(0, ob0 (roI s1.1))]) hm .refl ?_
 intro s5 n5 hm
 unfold partitionEqualOrdered_slices_intL5 at hm
 refine Sq (Sq ?_)
 refine Jn (ι := Bool) (fun (y10 : Bool) => mkSt [(0, ow 0 s1.1.length), (1, pI p1), (9, pI s5), (10, pI s1.2.1), (43, pB y10)] [(0, ob0 (roI s1.1))]) (fun y10 => (partitionEqualOrdered_slices_intJ10 p1 s1 n1 s5 n5) y10 = some RES) ?_ ?_
 ·intro y10 hm
  unfold partitionEqualOrdered_slices_intJ10 at hm
  refine condM hm ?_ ?_
  ·intro h156 hm
   refine Sk ?_
   refine Bk ?_
   refine RD hnt (nn 3 []) [43] [(9, pI (w64 (s5 + 1)))] [] [] tv ?_
   refine DW.done ?_
   show DW _ _ _ _ _
   exact jD (w64 (s5 + 1)) hm Conv.eqK
  ·intro h156 hm
   refine DW.exit ?_
   refine joinQ_exit ?_
   refine KQ_exit ?_
   refine blockQ_exit ?_
   show DW _ _ _ _ _
   refine Sq (Bk ?_)
   refine DW.whileO (fun (s7 : Int) => mkSt [(0, ow 0 s1.1.length), (1, pI p1), (9, pI s5), (10, pI s7)] [(0, ob0 (roI s1.1))]) hm Conv.t0 ?_
   intro s7 n7 hm
   unfold partitionEqualOrdered_slices_intL7 at hm
   refine Sq (Sq ?_)
   refine Jn (ι := Bool) (fun (y12 : Bool) => mkSt [(0, ow 0 s1.1.length), (1, pI p1), (9, pI s5), (10, pI s7), (59, pB y12)] [(0, ob0 (roI s1.1))]) (fun y12 => (partitionEqualOrdered_slices_intJ12 s1 n1 s5 s7 n7) y12 = some RES) ?_ ?_
   ·intro y12 hm
    unfold partitionEqualOrdered_slices_intJ12 at hm
    refine condM hm ?_ ?_
    ·intro h179 hm
     refine Sk ?_
     refine Bk ?_
     refine RD hnt (nn 3 []) [59] [(10, pI (w64 (s7 - 1)))] [] [] tv ?_
     refine DW.done ?_
     show DW _ _ _ _ _
     exact jD (w64 (s7 - 1)) hm Conv.eqK
    ·intro h179 hm
     refine DW.exit ?_
     refine joinQ_exit ?_
     refine KQ_exit ?_
     refine blockQ_exit ?_
     show DW _ _ _ _ _
     refine Sq (Sq (RD hnt (nn 3 []) [59] [(64, pB (decide (s5 > s7)))] [] [] tv ?_))
     refine condM hm ?_ ?_
     ·intro h180 hm
      refine DW.exit ?_
      refine blockQ_other (by decide) ?_
      refine KQ_exit ?_
      refine joinQ_exit ?_
      refine KQ_exit ?_
      refine blockQ_exit ?_
      show DW _ _ _ _ _
      refine Sq (RK hnt (nn 2 []) [(8, pI s5)] [(0, ob0 (roI s1.1))] tv ?_)
      obtain rfl := sj hm
      exact DW.ret (retK [roI s1.1] [] (pI s5))
     ·intro h180 hm
      refine Sk ?_
      obtain ⟨g181, g182, g183, g184, hm⟩ := go4 hm
      obtain ⟨g185, g186, g187, g188, hm⟩ := go4 hm
      refine Sq (RN hnt (nn 16 []) [(0, ow 0 (c44e3 s1 s5 s7).length), (1, pI p1), (9, pI s5), (10, pI s7)] [(0, ob0 (roI (c44e3 s1 s5 s7)))] [(0, ow 0 s1.1.length)] [(0, .row 1 s1.1.length (c44e2 s1 s5 s7))] (an g181.1 (an g181.2 (an g182 (an g183.1 (an g183.2 (an g184 (an g185.1 (an g185.2 (an g186 (an g187.1 (an g187.2 (an g188 tv)))))))))))) (by kernel_rfl) (.cons rfl (MLe.ownLen (enc := encI) (d := 0) (f := (c44e2 s1 s5 s7)) (RowIs.updR (RowIs.upd RowIs.elems (s1.1.getD (Int.toNat s7) 0) rfl) (by omega) (s1.1.getD (Int.toNat s5) 0) rfl)) .nil) (.cons rfl (BLe.typed (RowIs.updR (RowIs.upd RowIs.elems (s1.1.getD (Int.toNat s7) 0) rfl) (by omega) (s1.1.getD (Int.toNat s5) 0) rfl)) .nil) ?_)
      refine Sq (RD hnt (nn 3 []) [] [(9, pI (w64 (s5 + 1)))] [] [] tv ?_)
      refine RD hnt (nn 3 []) [] [(10, pI (w64 (s7 - 1)))] [] [] tv ?_
      refine DW.done ?_
      show DW _ _ _ _ _
      exact jD ((c44e3 s1 s5 s7), (w64 (s7 - 1)), (w64 (s5 + 1))) hm Conv.eqK
   ·rcases bt (decide (s5 ≤ s7)) with h173 | h173
    ·replace hm := if_t h173 hm
     obtain ⟨g174, g175, g176, g177, hm⟩ := go4 hm
     obtain ⟨r178, hr178, hm⟩ := bo hm
     refine RD hnt (nn 12 (o34 [] true r178 :: pT :: [])) [] [(59, pB r178)] [] [] (an3 h173 (an g174.1 (an g174.2 (an h173 (an g175 (an3 h173 (an g176.1 (an g176.2 (an h173 (an g177 (an h173 (an (Less_cmp_intSpec (s1.1.getD (Int.toNat p1) 0) (s1.1.getD (Int.toNat s7) 0) r178 hr178) (an h173 tv))))))))))))) ?_
     exact jD r178 hm Conv.eqK
    ·replace hm := if_f h173 hm
     refine RD hnt (nn 4 (sk 9 (pF :: []))) [] [(59, pB false)] [] [] (an4 h173 (an6 h173 tv)) ?_
     exact jD false hm Conv.eqK
 ·rcases bt (decide (s5 ≤ s1.2.1)) with h150 | h150
  ·replace hm := if_t h150 hm
   obtain ⟨g151, g152, g153, g154, hm⟩ := go4 hm
   obtain ⟨r155, hr155, hm⟩ := bo hm
   refine RD hnt (nn 12 (o34 [] true r155 :: .no :: pT :: [])) [] [(43, pB (!r155))] [] [] (an3 h150 (an g151.1 (an g151.2 (an h150 (an g152 (an3 h150 (an g153.1 (an g153.2 (an h150 (an g154 (an h150 (an (Less_cmp_intSpec (s1.1.getD (Int.toNat p1) 0) (s1.1.getD (Int.toNat s5) 0) r155 hr155) (an2 h150 tv))))))))))))) ?_
   exact jD (!r155) hm Conv.eqK
  ·replace hm := if_f h150 hm
   refine RD hnt (nn 4 (sk 10 (pF :: []))) [] [(43, pB false)] [] [] (an5 h150 (an6 h150 tv)) ?_
   exact jD false hm Conv.eqK
abbrev o44 (ks : List Nat) (b : Bool) (RES : Int × (List Int)) : Orc := .call 181 ks b (pI RES.1) [roI RES.2] []
end Go.Dm

