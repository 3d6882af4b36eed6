/- Texts of the proof of MemberLeaders: the data machine, the models of the Go functions, their contracts. -/
import Derived.Test.YtdckdjkjjmadeaaGreatMemberLeadersA2
import Derived.Test.YtdckdjkjjmadeaaGreatMemberLeadersA1
import Derived.Test.YtdckdjkjjmadeaaGreatProg
set_option linter.unusedVariables false
set_option linter.unusedSimpArgs false
/- Plain theory, part 22: the program's changes of hierarchies are the document's. -/
namespace Go.Dm

theorem fillL_length {α : Type} {L : List α} {a n : Nat} {x : α} (h : a + n ≤ L.length) : (fillL L a n x).length = L.length := by
  simp only [fillL, List.length_append, List.length_take, List.length_replicate, List.length_drop]
  omega
theorem fillL_take {α : Type} {L : List α} {a n : Nat} {x : α} (h : a ≤ L.length) : (fillL L a n x).take a = L.take a := by
  unfold fillL
  rw [List.take_append_of_le_length (by rw [List.length_take]; omega), List.take_take, Nat.min_self]
/-- the elements that are kept, moved to the front -/
theorem delete_loop {α R : Type} {p : α → Bool} {L : List α} {d : α} (hl : L.length ≤ 1000000) {body : List α × Int × Int → (List α × Int × Int → Option R) → Option R} {Q : R → Prop} {i0 : Nat} (hi0 : i0 < L.length) (h0 : ∀ x ∈ L.take i0, p x = false) (hp : p (L.getD i0 d) = true)
    (hb : ∀ (M : List α) (i j : Nat) n, M.length = L.length → i < j → j < L.length → (∀ s, (s = if p (M.getD j d) then (M, (i : Int), ((j + 1 : Nat) : Int)) else (M.set i (M.getD j d), ((i + 1 : Nat) : Int), ((j + 1 : Nat) : Int))) → Ok (n s) Q) → Ok (body (M, (i : Int), (j : Int)) n) Q)
    (hr : ∀ (M : List α) (i : Nat) n, M.length = L.length → i ≤ L.length → M.take i = L.filter (fun x => !p x) → Ok (body (M, (i : Int), (L.length : Int)) n) Q) : Ok (whileO body FUEL (L, (i0 : Int), ((i0 + 1 : Nat) : Int))) Q := by
  refine Ok.while (fun s => ∃ i j : Nat, s.2.1 = (i : Int) ∧ s.2.2 = (j : Int) ∧ i < j ∧ j ≤ L.length ∧ s.1.length = L.length ∧ s.1.take i = (L.take j).filter (fun x => !p x) ∧ s.1.drop j = L.drop j) (fun s => L.length - s.2.2.toNat) ?_ ?_ ?_
  · refine ⟨i0, i0 + 1, rfl, rfl, by omega, by omega, rfl, ?_, rfl⟩
    have e : L.take (i0 + 1) = L.take i0 ++ [L.getD i0 d] := by
      rw [List.take_add_one, getD_lt hi0]
      simp [hi0]
    rw [e, List.filter_append, List.filter_eq_self.mpr fun x hx => by simp [h0 x hx]]
    simp only [hp, Bool.not_true, List.filter_cons, Bool.false_eq_true, if_false, List.filter_nil, List.append_nil]
  · rw [FUEL_eq]
    omega
  · rintro ⟨M, x, y⟩ n ⟨i, j, e1, e2, hij, hj, hM, ht, hd⟩ hn
    simp only at e1 e2 hM ht hd
    subst e1 e2
    by_cases hjl : j < L.length
    · refine hb M i j n hM hij hjl fun s hs => ?_
      have hMj : M.getD j d = L.getD j d := by
        have := congrArg List.head? hd
        rw [List.head?_drop, List.head?_drop] at this
        rw [List.getD_eq_getElem?_getD, List.getD_eq_getElem?_getD, this]
      have e : L.take (j + 1) = L.take j ++ [L.getD j d] := by
        rw [List.take_add_one, getD_lt hjl]
        simp [hjl]
      have hd' : M.drop (j + 1) = L.drop (j + 1) := by
        have := congrArg (List.drop 1) hd
        rw [List.drop_drop, List.drop_drop] at this
        exact this
      cases hpj : p (M.getD j d) with
      | true =>
        rw [hpj, if_pos rfl] at hs
        subst hs
        refine hn _ ⟨i, j + 1, rfl, rfl, by omega, by omega, hM, ?_, hd'⟩ (by simp only; omega)
        simp only
        rw [ht, e, List.filter_append, ← hMj, List.filter_cons, hpj]
        simp
      | false =>
        rw [hpj, if_neg (by simp)] at hs
        subst hs
        refine hn _ ⟨i + 1, j + 1, rfl, rfl, by omega, by omega, by simp [hM], ?_, ?_⟩ (by simp only; omega)
        · simp only
          rw [e, List.filter_append, ← hMj, ← ht]
          have hi : i < M.length := by omega
          rw [List.take_add_one, List.filter_cons, hpj, List.take_set_of_le (Nat.le_refl _), List.getElem?_set_self hi]
          rfl
        · simp only
          rw [List.drop_set_of_lt (by omega), hd']
    · obtain rfl : j = L.length := by omega
      refine hr M i n hM (by omega) ?_
      rw [ht, List.take_length]

theorem DeleteFunc_Task_eq (L : List Task) (k : Int) (hl : L.length ≤ 1000000) :
    Ok (DeleteFunc_slices_TaskQExitFa_member L k) (fun r => r.2.1.length = L.length ∧ r.1 ≤ L.length ∧ r.2.1.take r.1 = L.filter (fun x => x.id != k && x.process != k)) := by
  have hf : ∀ x : Task, (!((x.id == k) || (x.process == k))) = (x.id != k && x.process != k) := fun x => by
    simp [bne]
  unfold DeleteFunc_slices_TaskQExitFa_member IndexFunc_slices_TaskQExitFa_member
  rw [if_pos (by omega), range_index (p := fun x : Task => (x.id == k) || (x.process == k)) (fun k x n => rfl) rfl]
  refine Ok.step rfl ?_
  rcases idx_cases (fun x : Task => (x.id == k) || (x.process == k)) L default with ⟨i, h1, h2, h3⟩ | ⟨h1, h2⟩
  · rw [h2, Option.elim_some]
    refine Ok.ite (fun c => by have := beq_iff_eq.mp c; omega) fun _ => ?_
    have e1 : w64 ((i : Int) + 1) = ((i + 1 : Nat) : Int) := by
      rw [w64_id (by omega) (by omega)]
      omega
    rw [e1]
    have hh := List.findIdx?_eq_some_iff_getElem.mp h2
    obtain ⟨g1, g2, g3⟩ := hh
    refine delete_loop (p := fun x : Task => (x.id == k) || (x.process == k)) (d := default) hl h1 ?_ ?_ ?_ ?_
    · intro x hx
      obtain ⟨j, hj, rfl⟩ := List.getElem_of_mem hx
      rw [List.length_take] at hj
      rw [List.getElem_take]
      have := g3 j (by omega)
      simpa using this
    · rw [getD_lt h1]
      exact g2
    · intro M i j n hM hij hj hn
      unfold DeleteFunc_slices_TaskQExitFa_memberL1 DeleteFunc_slices_TaskQExitFa_memberJ2
      simp only
      have ei : Int.toNat (i : Int) = i := by omega
      have ej : Int.toNat (j : Int) = j := by omega
      rw [ei, ej]
      refine Ok.ite (fun _ => ?_) fun c => by
        have := of_decide_eq_false c
        omega
      refine Ok.guard (by omega) (Ok.guard (by omega) ?_)
      unfold ExitFa_member
      refine Ok.step rfl ?_
      have ej1 : w64 ((j : Int) + 1) = ((j + 1 : Nat) : Int) := by
        rw [w64_id (by omega) (by omega)]
        omega
      have ei1 : w64 ((i : Int) + 1) = ((i + 1 : Nat) : Int) := by
        rw [w64_id (by omega) (by omega)]
        omega
      rw [ej1, ei1]
      refine Ok.ite (fun c => ?_) fun c => ?_
      · refine Ok.guard (by omega) (Ok.guard (by omega) (hn _ ?_))
        rw [if_neg]
        simpa using c
      · refine hn _ ?_
        rw [if_pos]
        rw [Bool.not_eq_false'] at c
        exact c
    · intro M i n hM hi ht
      unfold DeleteFunc_slices_TaskQExitFa_memberL1
      simp only
      have ei : Int.toNat (i : Int) = i := by omega
      rw [ei, subN_eq]
      refine Ok.ite (fun c => by have := of_decide_eq_true c; omega) fun _ => ?_
      have hfl : (fillL M i (M.length - i) ({ id := 0, process := 0, group := 0, user := 0 } : Task)).length = M.length := fillL_length (by omega)
      refine Ok.guard (by omega) (Ok.guard (by omega) (Ok.guard (by rw [hfl]; omega) (Ok.ret ⟨by simp only; rw [hfl, hM], hi, ?_⟩)))
      simp only
      rw [fillL_take (by omega), ht]
      exact List.filter_congr fun x _ => hf x
  · rw [h1, Option.elim_none]
    refine Ok.ite (fun _ => Ok.ret ⟨rfl, Nat.le_refl _, ?_⟩) fun c => by simp at c
    simp only [List.take_length]
    symm
    rw [List.filter_eq_self]
    intro x hx
    rw [List.find?_eq_none] at h2
    have := h2 x hx
    rw [← hf]
    simpa using this

theorem add_member_eq {h : Hierarchy} (l1 : h.tasks.length ≤ 1000000) (l2 : h.tree.nodes.length ≤ 1000000) (n1 : 1 ≤ h.next) (x : Task) : add_member h x = some (addK h x) := by
  apply Ok.eq
  unfold add_member addK
  refine Ok.ite (fun c => ?_) fun c => ?_
  · rw [if_pos]
    · exact Ok.ret rfl
    · simp only [Bool.or_eq_true, decide_eq_true_eq] at c ⊢
      omega
  · simp only [Bool.or_eq_false_iff, decide_eq_false_iff_not] at c
    rw [if_neg (by simp only [Bool.or_eq_true, decide_eq_true_eq]; omega)]
    refine Ok.step (Copy_crew_eq h l2 l1) ?_
    unfold add_memberJ1
    simp only
    rw [w64_id (by omega) (by omega)]
    refine Ok.ite (fun c => Ok.guard (by omega) (Ok.ret ?_)) fun c => Ok.guard (by omega) (Ok.ret ?_)
    · rw [if_pos c]
    · rw [if_neg (by rw [c]; simp)]

theorem Spawn_member_t {h : Hierarchy} (w : WfH h) (g u : Int) : Spawn_member h g u = some (spawnK h g u) := by
  have l1 := w.len
  have l2 := w.tree.len2
  apply Ok.eq
  unfold Spawn_member spawnK
  refine Ok.step (Check_member_t w) ?_
  simp only [Bool.not_true, Bool.false_eq_true, if_false]
  unfold Spawn_memberJ1
  by_cases h1 : u < 0
  · simp only [h1, decide_true, Bool.true_or, if_true]
    exact Ok.ret rfl
  by_cases h2 : u > 1048576
  · have h2' : 1048576 < u := h2
    simp only [h1, h2, h2', decide_true, decide_false, Bool.or_true, if_true, Bool.false_eq_true, if_false]
    exact Ok.ret rfl
  have h2' : ¬ 1048576 < u := h2
  simp only [h1, h2, h2', decide_false, Bool.or_false, Bool.false_eq_true, if_false]
  refine Ok.bind (At_forest_has h.tree g (by omega)) fun i hi => ?_
  rw [hi.1]
  cases hasN h.tree g with
  | false => exact Ok.ret rfl
  | true =>
    simp only [Bool.not_true, Bool.false_eq_true, if_false]
    exact Ok.step (add_member_eq (by omega) (by omega) w.n1 _) (Ok.ret rfl)
theorem Exit_member_t {h : Hierarchy} (w : WfH h) (k : Int) : Exit_member h k = some (exitK h k) := by
  have l1 := w.len
  have l2 := w.tree.len2
  apply Ok.eq
  unfold Exit_member exitK getK
  refine Ok.step (Check_member_t w) ?_
  simp only [Bool.not_true, Bool.false_eq_true, if_false]
  refine Ok.step (At_crew_eq h k (by omega)) ?_
  rcases idx_cases (fun x : Task => x.id == k) h.tasks default with ⟨i, h1, h2, h3⟩ | ⟨h1, h2⟩
  · rw [h2, h3, Option.elim_some, Option.elim_some]
    refine Ok.ite (fun c => by have := of_decide_eq_true c; omega) fun _ => ?_
    refine Ok.step (Copy_crew_eq h (by omega) (by omega)) ?_
    refine Ok.bind (DeleteFunc_Task_eq h.tasks k (by omega)) fun r ⟨r1, r2, r3⟩ => ?_
    refine Ok.guard r1.symm (Ok.guard (by omega) (Ok.ret ?_))
    rw [r3]
  · rw [h1, h2]
    exact Ok.ret rfl

theorem sane_law6_t : sane_law6 = some true := by kernel_rfl
end Go.Dm


/- The law MemberLeaders, on the model. -/
namespace Go.Dm

theorem filter_one {L : List Task} (hs : L.Pairwise (fun a b => a.id < b.id)) {x : Task} (hx : x ∈ L) : (L.filter (fun y => y.id == x.id)).length = 1 := by
  induction L with
  | nil => simp at hx
  | cons a r ih =>
    rw [List.pairwise_cons] at hs
    rw [List.filter_cons]
    rcases List.mem_cons.mp hx with rfl | h
    · have : r.filter (fun y => y.id == x.id) = [] := by
        rw [List.filter_eq_nil_iff]
        intro y hy
        have := hs.1 y hy
        simp
        omega
      simp [this]
    · have := hs.1 x h
      rw [if_neg (by simp; omega)]
      exact ih hs.2 h

theorem filter_split (L : List Task) (p : Task → Bool) : (L.filter (fun x => !p x)).length + (L.filter p).length = L.length := by
  induction L with
  | nil => rfl
  | cons a r ih =>
    rw [List.filter_cons, List.filter_cons]
    cases p a <;> simp <;> omega

theorem memberLeaders_ok (l : List Int) : Ok (MemberLeaders_law6 l) (· = true) := by
  have sane : ∀ {f : Bool → Option Bool}, f true = some true → Ok (Option.bind sane_law6 f) (· = true) := fun h => Ok.step sane_law6_t (Ok.of_eq h rfl)
  unfold MemberLeaders_law6 Light_made
  refine Ok.step rfl ?_
  refine Ok.ite (fun _ => sane rfl) fun c => ?_
  have hl : l.length ≤ 600 := by
    have : ((l.length : Nat) : Int) ≤ 600 := by simpa using c
    omega
  refine Ok.step (a := { l := l, atF := 0 }) rfl ?_
  refine Ok.bind (Hierarchy_sized (dice_roll hl) 4 9 (by omega) (by omega) (by omega) (by omega)) fun r ⟨w, hd, sz⟩ => ?_
  have h1 := w.len
  have h2 := w.tree.len2
  have s1 := sz.tasks
  have s2 := sz.next
  refine Ok.ite (fun _ => sane rfl) fun c => ?_
  have h0 : 0 < r.1.tasks.length := by
    have : ¬ ((r.1.tasks.length : Nat) : Int) = 0 := by simpa using c
    omega
  refine Ok.bind (NextPos_ok hd _ (by omega) (by omega)) fun a ⟨ha1, ha2, ha3⟩ => Ok.guard ⟨ha2, ha3⟩ ?_
  have hx : r.1.tasks.getD a.1.toNat default ∈ r.1.tasks := getD_mem (by omega)
  generalize hX : r.1.tasks.getD a.1.toNat default = x at *
  refine Ok.step (Exit_member_t w x.id) ?_
  have eK : exitK r.1 x.id = ({ tree := r.1.tree, tasks := r.1.tasks.filter (fun y => y.id != x.id && y.process != x.id), next := r.1.next }, 0) := by
    unfold exitK
    rw [getK_of w.sorted hx]
    rfl
  have wo : WfH (exitK r.1 x.id).1 := exitK_wf w rfl (by rw [eK])
  generalize hO : (exitK r.1 x.id).1 = o at wo
  have eo : exitK r.1 x.id = (o, 0) := by rw [← hO, eK]
  have ot : o.tasks = r.1.tasks.filter (fun y => y.id != x.id && y.process != x.id) := by rw [← hO, eK]
  have on : o.next = r.1.next := by rw [← hO, eK]
  have otr : o.tree = r.1.tree := by rw [← hO, eK]
  rw [eo]
  have hsplit := filter_split r.1.tasks (fun y => y.id == x.id || y.process == x.id)
  have hsame : ∀ y : Task, (!(y.id == x.id || y.process == x.id)) = (y.id != x.id && y.process != x.id) := fun y => by simp [bne]
  rw [List.filter_congr fun y _ => hsame y, ← ot] at hsplit
  have olen : o.tasks.length ≤ r.1.tasks.length := by omega
  -- the process of the task
  have v := w.val x hx
  obtain ⟨p, q1, q2, q3⟩ := v.ldr
  obtain ⟨hp, hpi⟩ := getK_some q1
  have hJ : ∀ gone : Int, gone = ((r.1.tasks.filter (fun y => y.id == x.id || y.process == x.id)).length : Nat) → Ok (MemberLeaders_law6J1 r a (o, 0) gone) (· = true) := by
    intro gone hg
    unfold MemberLeaders_law6J1 MemberLeaders_law6J2
    simp only
    rw [hX]
    refine Ok.step (Spawn_member_t wo 1 0) ?_
    have hroot : hasN o.tree 1 = true := by
      obtain ⟨n, q, e, hr⟩ := wo.tree.root
      exact hasN_iff.mpr ⟨n, by rw [e]; simp, hr.id⟩
    have esp : spawnK o 1 0 = ({ tree := o.tree, tasks := o.tasks ++ [{ id := o.next, process := o.next, group := 1, user := 0 }], next := o.next + 1 }, o.next, 0) := by
      unfold spawnK
      rw [if_neg (by simp), hroot]
      simp only [Bool.not_true, Bool.false_eq_true, if_false]
      unfold addK
      rw [if_neg (by simp only [Bool.or_eq_true, decide_eq_true_eq]; omega)]
      rfl
    rw [esp]
    simp only
    refine Ok.ite (fun c => by simp at c) fun _ => ?_
    refine Ok.ite (fun c => by simp at c) fun _ => ?_
    refine Ok.ite (fun c => ?_) fun _ => ?_
    · exfalso
      rw [hg, w64_id (by omega) (by omega)] at c
      rw [bne_iff_ne] at c
      omega
    refine Ok.step (Threads_member_t wo x.id) ?_
    have e0 : threadsK o x.id = [] := by
      unfold threadsK
      rw [ot]
      have : ((r.1.tasks.filter (fun y => y.id != x.id && y.process != x.id)).filter (fun y => y.process == x.id)) = [] := by
        rw [List.filter_eq_nil_iff]
        intro y hy
        have := (List.mem_filter.mp hy).2
        simp at this
        simpa using this.2
      rw [this]
      rfl
    rw [e0]
    refine Ok.ite (fun c => by simp at c) fun _ => ?_
    refine Ok.ite (fun c => by simp [on] at c) fun _ => ?_
    refine Ok.ite (fun c => ?_) fun _ => ?_
    · exfalso
      rw [w64_id (by omega) (by omega)] at c
      simp at c
    refine Ok.guard (by omega) ?_
    refine Ok.range (fun _ _ => True) trivial ?_ fun _ _ => sane rfl
    intro pre y post _ n he _ hn
    unfold MemberLeaders_law6L1
    simp only
    refine Ok.ite (fun c => ?_) fun _ => hn () trivial
    exfalso
    have := w.lt y (by rw [he]; simp)
    have c : y.id = o.next := by simpa using c
    omega
  refine Ok.ite (fun c => ?_) fun c => ?_
  · have c : x.id = x.process := by simpa using c
    refine Ok.step (Threads_member_t w x.process) (hJ _ ?_)
    unfold threadsK
    rw [List.length_map]
    congr 2
    apply List.filter_congr
    intro y hy
    by_cases e : y.process = x.id
    · simp [e, ← c]
    · have : ¬ y.id = x.id := fun e2 => by
        have := sortedK_inj w.sorted hy hx e2
        subst this
        exact e c.symm
      simp [e, this, ← c]
  · have c : ¬ x.id = x.process := by simpa using c
    refine hJ _ ?_
    have : (r.1.tasks.filter (fun y => y.id == x.id || y.process == x.id)) = r.1.tasks.filter (fun y => y.id == x.id) := by
      apply List.filter_congr
      intro y hy
      have : ¬ y.process = x.id := fun e => by
        obtain ⟨p, q1, q2, _⟩ := (w.val y hy).ldr
        rw [e] at q1 q2
        obtain ⟨hp, hpi⟩ := getK_some q1
        have := sortedK_inj w.sorted hp hx hpi
        subst this
        exact c q2.symm
      simp [this]
    rw [this, filter_one w.sorted hx]
    rfl

theorem memberLeaders_true (l : List Int) (_ : ∀ n ∈ l, -9223372036854775808 ≤ n ∧ n ≤ 9223372036854775807) : MemberLeaders_law6 l = some true := (memberLeaders_ok l).eq
end Go.Dm


/- Models of Go types and functions, printed by a program. -/
namespace Go.Dm
set_option linter.unusedVariables false

end Go.Dm


/- The data machine, part 24: states by their changes; shorter words for the printed proofs. -/
namespace Go.Dm

def memN : List Nat → Nat → Bool
  | [], _ => false
  | a :: r, k => bif Nat.beq a k then true else memN r k
def delK {α : Type} (ds : List Nat) : List (Nat × α) → List (Nat × α)
  | [] => []
  | (k, x) :: r => bif memN ds k then delK ds r else (k, x) :: delK ds r
def insK {α : Type} (k : Nat) (x : α) : List (Nat × α) → List (Nat × α)
  | [] => [(k, x)]
  | (t, y) :: r => bif Nat.beq k t then (k, x) :: r else bif Nat.ble k t then (k, x) :: (t, y) :: r else (t, y) :: insK k x r
def insA {α : Type} : List (Nat × α) → List (Nat × α) → List (Nat × α)
  | [], l => l
  | (k, x) :: r, l => insK k x (insA r l)
/-- a list without some keys, with others changed -/
def up {α : Type} (ds : List Nat) (us l : List (Nat × α)) : List (Nat × α) := insA us (delK ds l)

section
variable {P : Program} {T : Ty} {cx : Cx} {σ : St} {Q : Exit → St → Prop} {R : Type}

theorem DW.rd {nt : Nat} (hT : TyGood P T) (hm : P.follows .mixedOrders = true) (hnt : cx.nt = nt) {ops : Array Oper} {id : Nat} {draw : Bool} {r : List Code} {sl0 : List (Nat × MV)} {ob0 : List (Nat × Obj)} (xs : List Orc) (ds : List Nat) (us : List (Nat × MV)) (dk : List Nat) (uo : List (Nat × Obj))
    {q : Prop} (hq : q) (hQ : DW P cx r (mkSt (up ds us sl0) (up dk uo ob0)) Q) (h : dregQ P T nt ops xs (keysW (up ds us sl0)) (keysW (up dk uo ob0)) draw (mkSt sl0 ob0) = some ((up ds us sl0, up dk uo ob0), q)) : DW P cx (.region id ops draw :: r) (mkSt sl0 ob0) Q :=
  DW.rk hT hm hnt xs _ _ hq h hQ

theorem Conv.eqK {sl0 sl : List (Nat × MV)} {ob0 ob : List (Nat × Obj)} (h : (sl0, ob0) = (sl, ob) := by kernel_rfl) : Conv cx (mkSt sl0 ob0) (mkSt sl ob) := by
  obtain ⟨rfl, rfl⟩ := Prod.mk.inj h
  exact .refl

theorem Conv.t0 {sl : List (Nat × MV)} {ob : List (Nat × Obj)} (h : (normSl (keysW sl) (keysW ob) σ, normOb (keysW ob) σ) = (patchS [] sl, patchO [] ob) := by kernel_rfl) : Conv cx σ (mkSt sl ob) := Conv.tp [] [] h .nil .nil

theorem condM {c : Operand} {x y : Code} {r : List Code} {b : Bool} {X Y : Option R} {res : R} (hm : (if b = true then X else Y) = some res) (h1 : b = true → X = some res → DW P cx (x :: r) σ Q) (h2 : b = false → Y = some res → DW P cx (y :: r) σ Q)
    (hk : constOK c = true := by kernel_rfl) (hc : ev σ c = .p (.v (.bool b)) := by kernel_rfl) : DW P cx (.cond c x y :: r) σ Q :=
  DW.cond b hk hc (fun e => h1 e (if_t e hm)) (fun e => h2 e (if_f e hm))
theorem condK {c : Operand} {x y : Code} {r : List Code} (b : Bool) (h1 : b = true → DW P cx (x :: r) σ Q) (h2 : b = false → DW P cx (y :: r) σ Q)
    (hk : constOK c = true := by kernel_rfl) (hc : ev σ c = .p (.v (.bool b)) := by kernel_rfl) : DW P cx (.cond c x y :: r) σ Q := DW.cond b hk hc h1 h2
theorem condT {c : Operand} {x y : Code} {r : List Code} {b : Bool} (hb : b = true) (h1 : DW P cx (x :: r) σ Q)
    (hk : constOK c = true := by kernel_rfl) (hc : ev σ c = .p (.v (.bool b)) := by kernel_rfl) : DW P cx (.cond c x y :: r) σ Q := DW.cond b hk hc (fun _ => h1) (fun e => by rw [hb] at e; cases e)
theorem condF {c : Operand} {x y : Code} {r : List Code} {b : Bool} (hb : b = false) (h1 : DW P cx (y :: r) σ Q)
    (hk : constOK c = true := by kernel_rfl) (hc : ev σ c = .p (.v (.bool b)) := by kernel_rfl) : DW P cx (.cond c x y :: r) σ Q := DW.cond b hk hc (fun e => by rw [hb] at e; cases e) (fun _ => h1)

theorem retK {results : List ResultVar} {m : Nat} {res : MV} {bs : List Body} (bs' : List Body) (ex : List Nat) (res' : MV) (h : fin T results m ex σ = some (res', bs') := by kernel_rfl) (e : res' = res := by rfl) (e2 : bs' = bs := by rfl) : finQ T results m res bs .ret σ := retOK ex res' h e e2
theorem endK {results : List ResultVar} {m : Nat} {res : MV} {bs : List Body} (bs' : List Body) (ex : List Nat) (res' : MV) (h : fin T results m ex σ = some (res', bs') := by kernel_rfl) (e : res' = res := by rfl) (e2 : bs' = bs := by rfl) : finQ T results m res bs .normal σ := endOK ex res' h e e2

theorem go2 {p q : Prop} [Decidable p] [Decidable q] {x : Option R} {r : R} (h : (if p then if q then x else none else none) = some r) : p ∧ q ∧ x = some r := ⟨(guard_open h).1, guard_open (guard_open h).2⟩
theorem go3 {p q s : Prop} [Decidable p] [Decidable q] [Decidable s] {x : Option R} {r : R} (h : (if p then if q then if s then x else none else none else none) = some r) : p ∧ q ∧ s ∧ x = some r := ⟨(guard_open h).1, go2 (guard_open h).2⟩
theorem go4 {p q s t : Prop} [Decidable p] [Decidable q] [Decidable s] [Decidable t] {x : Option R} {r : R} (h : (if p then if q then if s then if t then x else none else none else none else none) = some r) : p ∧ q ∧ s ∧ t ∧ x = some r := ⟨(guard_open h).1, go3 (guard_open h).2⟩
end
end Go.Dm


/- Types of the program. -/
namespace Go.Dm
open Go.Proofs
set_option linter.unusedVariables false
def Tt : Ty := [(3, ⟨.int .i64, 1, 8, [.int .i64 0], false⟩),
  (5, ⟨.int .u8, 1, 1, [.int .u8 0], false⟩),
  (9, ⟨.str, 1, 16, [.string ByteArray.empty], false⟩),
  (22, ⟨.slice 3, 1, 24, [.slice none 0 0], false⟩),
  (27, ⟨.slice 37, 1, 24, [.slice none 0 0], false⟩),
  (29, ⟨.struct [(0, 27), (1, 3)], 2, 32, [.slice none 0 0, .int .i64 0], false⟩),
  (30, ⟨.slice 61, 1, 24, [.slice none 0 0], false⟩),
  (32, ⟨.struct [(0, 29), (2, 30), (3, 3)], 4, 64, [.slice none 0 0, .int .i64 0, .slice none 0 0, .int .i64 0], false⟩),
  (37, ⟨.struct [(0, 3), (1, 3), (2, 9), (3, 3), (4, 3), (5, 3)], 6, 56, [.int .i64 0, .int .i64 0, .string ByteArray.empty, .int .i64 0, .int .i64 0, .int .i64 0], false⟩),
  (50, ⟨.int .i64, 1, 8, [.int .i64 0], false⟩),
  (61, ⟨.struct [(0, 3), (1, 3), (2, 3), (3, 3)], 4, 32, [.int .i64 0, .int .i64 0, .int .i64 0, .int .i64 0], false⟩),
  (88, ⟨.struct [(0, 22), (1, 3)], 2, 32, [.slice none 0 0, .int .i64 0], false⟩),
  (134, ⟨.slice 9, 1, 24, [.slice none 0 0], false⟩),
  (135, ⟨.map 3 3, 1, 8, [(.map none)], false⟩),
  (143, ⟨.int .u64, 1, 8, [.int .u64 0], false⟩),
  (145, ⟨.slice 5, 1, 24, [.slice none 0 0], false⟩),
  (148, ⟨.int .i64, 1, 8, [.int .i64 0], false⟩),
  (157, ⟨.int .u64, 1, 8, [.int .u64 0], false⟩),
  (159, ⟨.int .u64, 1, 8, [.int .u64 0], false⟩)]
theorem Tgood : TyGood Tryz.prog Tt := tyGood_of ⟨⟨⟨by kernel_rfl, by kernel_rfl⟩, trivial⟩, ⟨⟨by kernel_rfl, by kernel_rfl⟩, trivial⟩, ⟨⟨by kernel_rfl, by kernel_rfl⟩, trivial⟩, ⟨⟨by kernel_rfl, by kernel_rfl⟩, trivial⟩, ⟨⟨by kernel_rfl, by kernel_rfl⟩, trivial⟩, ⟨⟨by kernel_rfl, by kernel_rfl⟩, trivial⟩, ⟨⟨by kernel_rfl, by kernel_rfl⟩, trivial⟩, ⟨⟨by kernel_rfl, by kernel_rfl⟩, trivial⟩, ⟨⟨by kernel_rfl, by kernel_rfl⟩, trivial⟩, ⟨⟨by kernel_rfl, by kernel_rfl⟩, trivial⟩, ⟨⟨by kernel_rfl, by kernel_rfl⟩, trivial⟩, ⟨⟨by kernel_rfl, by kernel_rfl⟩, trivial⟩, ⟨⟨by kernel_rfl, by kernel_rfl⟩, trivial⟩, ⟨⟨by kernel_rfl, by kernel_rfl⟩, trivial⟩, ⟨⟨by kernel_rfl, by kernel_rfl⟩, trivial⟩, ⟨⟨by kernel_rfl, by kernel_rfl⟩, trivial⟩, ⟨⟨by kernel_rfl, by kernel_rfl⟩, trivial⟩, ⟨⟨by kernel_rfl, by kernel_rfl⟩, trivial⟩, ⟨⟨by kernel_rfl, by kernel_rfl⟩, trivial⟩, trivial⟩ (by kernel_rfl) (by kernel_rfl)
theorem mixed : Tryz.prog.follows .mixedOrders = true := by kernel_rfl
theorem RK {cx : Cx} {σ : St} {Q : Exit → St → Prop} {nt : Nat} (hnt : cx.nt = nt) {ops : Array Oper} {id : Nat} {draw : Bool} {r : List Code} (xs : List Orc) (sl : List (Nat × MV)) (ob : List (Nat × Obj))
    {q : Prop} (hq : q) (hQ : DW Tryz.prog cx r (mkSt sl ob) Q) (h : dregQ Tryz.prog Tt nt ops xs (keysW sl) (keysW ob) draw σ = some ((sl, ob), q) := by kernel_rfl) : DW Tryz.prog cx (.region id ops draw :: r) σ Q := DW.rk Tgood mixed hnt xs sl ob hq h hQ
theorem RD {cx : Cx} {Q : Exit → St → Prop} {nt : Nat} (hnt : cx.nt = nt) {ops : Array Oper} {id : Nat} {draw : Bool} {r : List Code} {sl0 : List (Nat × MV)} {ob0 : List (Nat × Obj)} (xs : List Orc) (ds : List Nat) (us : List (Nat × MV)) (dk : List Nat) (uo : List (Nat × Obj))
    {q : Prop} (hq : q) (hQ : DW Tryz.prog cx r (mkSt (up ds us sl0) (up dk uo ob0)) Q) (h : dregQ Tryz.prog Tt nt ops xs (keysW (up ds us sl0)) (keysW (up dk uo ob0)) draw (mkSt sl0 ob0) = some ((up ds us sl0, up dk uo ob0), q) := by kernel_rfl) : DW Tryz.prog cx (.region id ops draw :: r) (mkSt sl0 ob0) Q := DW.rd Tgood mixed hnt xs ds us dk uo hq hQ h
theorem SO {f : FuncId} {fn : Func} {c : Code} (hf : Tryz.prog.funcs[f]? = some fn) (hb : fn.body = some c)
    {args : List MV} {outs : List Body} {res : MV} {outs' news : List Body} (hlen : outs'.length = outs.length)
    (sl : List (Nat × MV)) (ob : List (Nat × Obj)) (hd : ∀ cx : Cx, cx.nt = fn.ntmps → DW Tryz.prog cx [c] (mkSt sl ob) (finQ Tt fn.results.toList outs.length res (outs' ++ news)))
    (hname : fn.name ≠ "runtime.NumGoroutine" := by decide) (hle : Nat.ble args.length fn.ntmps = true := by rfl) (hm : Nat.ble outs.length 1000 = true := by rfl)
    (h1 : normSl (upN args.length 0) (upN outs.length 0) ⟨fun t => (args[t]?).getD .any, objsL outs⟩ = sl := by kernel_rfl)
    (h2 : normOb (upN outs.length 0) ⟨fun t => (args[t]?).getD .any, objsL outs⟩ = ob := by kernel_rfl) :
    Spec Tryz.prog f args outs res outs' news := spec_of Tgood hf hname hb hlen (Nat.le_of_ble_eq_true hle) (Nat.le_of_ble_eq_true hm) h1 h2 fun cx hnt => DW.start (hd cx hnt)
theorem RN {cx : Cx} {σ : St} {Q : Exit → St → Prop} {nt : Nat} (hnt : cx.nt = nt) {ops : Array Oper} {id : Nat} {draw : Bool} {r : List Code} (xs : List Orc) (sl : List (Nat × MV)) (ob : List (Nat × Obj))
    (ps : List (Nat × MV)) (qs : List (Nat × Body)) {q : Prop} (hq : q) (h : dregQ Tryz.prog Tt nt ops xs (keysW sl) (keysW ob) draw σ = some ((patchS ps sl, patchO qs ob), q)) (hs : SP sl ps) (ho : OP ob qs)
    (hQ : DW Tryz.prog cx r (mkSt sl ob) Q) : DW Tryz.prog cx (.region id ops draw :: r) σ Q := DW.rn Tgood mixed hnt xs sl ob ps qs hq h hs ho hQ
theorem RT {cx : Cx} {σ : St} {nt : Nat} (hnt : cx.nt = nt) {ops : Array Oper} {draw : Bool} {sl : List (Nat × MV)} {ob : List (Nat × Obj)} (xs : List Orc)
    (ps : List (Nat × MV)) {q : Prop} (hq : q) (h : dregQ Tryz.prog Tt nt ops xs (keysW sl) (keysW ob) draw σ = some ((patchS ps sl, ob), q)) (hs : SP sl ps) : RegTo Tryz.prog cx ops draw σ sl ob := RegTo.rn Tgood mixed hnt xs ps hq h hs
end Go.Dm


/- Go functions compute their models, printed by a program. -/
namespace Go.Dm
open Go.Proofs
set_option linter.unusedVariables false
theorem Light_madeSpec (p0 : List Int) (RES : Bool) (hm : Light_made p0 = some RES) : Spec Tryz.prog 14 [.p (slI p0)] [] (pB RES) [] [] := by
 unfold Light_made at hm
 refine SO Tryz.func14 rfl rfl [(0, .p (slI p0))] [] ?_
 intro cx hnt
 refine DW.seq (RK hnt (.no :: []) [(0, .p (slI p0))] [] trivial ?_)
 refine DW.seq (RK hnt (nn 4 []) [(2, pB (decide (((p0.length : Nat) : Int) ≤ 600)))] [] trivial ?_)
 refine DW.ret ?_
 obtain rfl := Option.some.inj hm
 exact retK [] [] (pB (decide (((p0.length : Nat) : Int) ≤ 600)))

abbrev c119e1 := ({ id := 1, parent := 0, name := ByteArray.empty, control := 0, kind := 0, owner := 0 } : Node)
theorem New_treeSpec (RES : Tree) (hm : New_tree = some RES) : Spec Tryz.prog 119 [] [] (.agg [ow 0 RES.nodes.length, pI RES.next]) [] [roNode RES.nodes] := by
 unfold New_tree at hm
 refine SO Tryz.func119 rfl rfl [] [] ?_
 intro cx hnt
 refine DW.seq (RK hnt (.no :: []) [(0, rr 1000)] [(1000, bx [.p (.sl .nil 0 0 (fun _ => [])), pI 0])] trivial ?_)
 refine DW.seq (RN hnt (nn 4 []) [(0, rr 1000)] [(1000, bx [ow 1016 [(c119e1)].length, pI 2]), (1016, ob0 (roNode [(c119e1)]))] [] [(1000, .box [ow 1016 1, pI 2]), (1016, .row 6 1 (cut 6 [vi 1, vi 0, vs ByteArray.empty, vi 0, vi 0, vi 0]))] trivial (by kernel_rfl) .nil (.cons rfl (.box (.cons (MLe.ownLen (enc := encNode) (d := dNode) (f := (cut 6 [vi 1, vi 0, vs ByteArray.empty, vi 0, vi 0, vi 0])) (RowIs.lit (enc := encNode) (d := dNode) (n := 1) (f := (cut 6 [vi 1, vi 0, vs ByteArray.empty, vi 0, vi 0, vi 0])) [(c119e1)] rfl (fun | 0, _ => rfl | n + 1, h => absurd h (by omega)))) (.cons .rfl .nil))) (.cons rfl (BLe.typed (RowIs.lit (enc := encNode) (d := dNode) (n := 1) (f := (cut 6 [vi 1, vi 0, vs ByteArray.empty, vi 0, vi 0, vi 0])) [(c119e1)] rfl (fun | 0, _ => rfl | n + 1, h => absurd h (by omega)))) .nil)) ?_)
 refine DW.ret ?_
 obtain rfl := Option.some.inj hm
 exact retK [roNode [(c119e1)]] [1016] (.agg [ow 0 [(c119e1)].length, pI 2])

theorem New_memberSpec (RES : Hierarchy) (hm : New_member = some RES) : Spec Tryz.prog 63 [] [] (.agg [ow 0 RES.tree.nodes.length, pI RES.tree.next, ow 1 RES.tasks.length, pI RES.next]) [] [roNode RES.tree.nodes, roTask RES.tasks] := by
 unfold New_member at hm
 refine SO Tryz.func63 rfl rfl [] [] ?_
 intro cx hnt
 refine DW.seq (RK hnt (.no :: []) [(0, rr 1000)] [(1000, bx [.p (.sl .nil 0 0 (fun _ => [])), pI 0, .p (.sl .nil 0 0 (fun _ => [])), pI 0])] trivial ?_)
 obtain ⟨r1, hr1, hm⟩ := bind_open hm
 refine DW.seq (RK hnt (.call 119 [] true (.agg [ow 0 r1.nodes.length, pI r1.next]) [] [roNode r1.nodes] :: nn 2 []) [(0, rr 1000)] [(1000, bx [ow 1008 r1.nodes.length, pI r1.next, .p (.sl .nil 0 0 (fun _ => [])), pI 1]), (1008, ob0 (roNode r1.nodes))] (an (New_treeSpec r1 hr1) trivial) ?_)
 refine DW.conv (τ := mkSt [(0, rr 1000)] [(1000, bx [ow 1008 r1.nodes.length, pI r1.next, ow 100000 0, pI 1]), (1008, ob0 (roNode r1.nodes)), (100000, ob0 (roTask []))]) (Conv.trans (τ := mkSt [(0, rr 1000)] ((100000, ⟨0, .row 4 0 (elems encTask dTask [])⟩) :: [(1000, bx [ow 1008 r1.nodes.length, pI r1.next, ow 100000 0, pI 1]), (1008, ob0 (roNode r1.nodes))])) (Conv.adopt 100000 4 (elems encTask dTask []) rfl rfl (.rfl _) (.box (.cons (.rfl _) (.cons (.rfl _) (.cons (.nil _ _) (.cons (.rfl _) (.rfl _))))) (.keep (.rfl _)))) Conv.t0) ?_
 refine DW.ret ?_
 obtain rfl := Option.some.inj hm
 exact retK [roNode r1.nodes, roTask []] [1008, 100000] (.agg [ow 0 r1.nodes.length, pI r1.next, ow 1 0, pI 1])

theorem root_treeSpec (p0 : Node) (RES : Bool) (hm : root_tree p0 = some RES) : Spec Tryz.prog 152 [.p (.agg (encNode p0))] [] (pB RES) [] [] := by
 unfold root_tree at hm
 refine SO Tryz.func152 rfl rfl [(0, .p (.agg (encNode p0)))] [] ?_
 intro cx hnt
 refine DW.seq (RK hnt (nn 2 []) [(1, rr 1008)] [(1008, bx (pm (encNode p0)))] trivial ?_)
 refine DW.seq (DW.regJ (sl2 := [(2, pB ((((p0.id == 1) && (p0.parent == 0)) && (beqS p0.name ByteArray.empty)) && (p0.kind == 0)))]) (ob2 := []) ?_ ?_)
 ·rcases bt (p0.id == 1) with h1 | h1
  ·rcases bt (p0.parent == 0) with h2 | h2
   ·rcases bt (beqS p0.name ByteArray.empty) with h3 | h3
    ·exact RT hnt (nn 7 (pT :: nn 4 (pT :: nn 4 (pT :: .no :: [])))) [(2, pB (p0.kind == 0))] (an4 h1 (an4 h2 (an4 h3 trivial))) (by kernel_rfl) (.cons rfl (.of_eq (by rw [h1, h2, h3]; try rfl)) .nil)
    ·exact RT hnt (nn 7 (pT :: nn 4 (pT :: .no :: sk 3 (pF :: .no :: [])))) [(2, pB false)] (an4 h1 (an4 h2 (an4 h3 trivial))) (by kernel_rfl) (.cons rfl (.of_eq (by rw [h1, h2, h3]; try rfl)) .nil)
   ·exact RT hnt (nn 7 (pT :: .no :: sk 3 (pF :: .no :: sk 3 (pF :: .no :: [])))) [(2, pB false)] (an4 h1 (an4 h2 (an4 ff trivial))) (by kernel_rfl) (.cons rfl (.of_eq (by rw [h1, h2]; try rfl)) .nil)
  ·exact RT hnt (nn 4 (sk 3 (pF :: .no :: sk 3 (pF :: .no :: sk 3 (pF :: .no :: []))))) [(2, pB false)] (an4 h1 (an2 ff (an6 ff trivial))) (by kernel_rfl) (.cons rfl (.of_eq (by rw [h1]; try rfl)) .nil)
 ·refine DW.ret ?_
  obtain rfl := Option.some.inj hm
  exact retK [] [] (pB ((((p0.id == 1) && (p0.parent == 0)) && (beqS p0.name ByteArray.empty)) && (p0.kind == 0)))

theorem inner_nameSpec (p0 : Int) (RES : Bool) (hm : inner_name p0 = some RES) : Spec Tryz.prog 176 [.p (vk .u8 p0)] [] (pB RES) [] [] := by
 unfold inner_name at hm
 refine SO Tryz.func176 rfl rfl [(0, .p (vk .u8 p0))] [] ?_
 intro cx hnt
 refine DW.seq (RD hnt (.no :: []) [] [] [] [] trivial ?_)
 refine DW.seq (DW.regJ (sl2 := [(2, pB ((((((decide (p0 ≥ 97)) && (decide (p0 ≤ 122))) || ((decide (p0 ≥ 65)) && (decide (p0 ≤ 90)))) || ((decide (p0 ≥ 48)) && (decide (p0 ≤ 57)))) || (p0 == 95)) || (p0 == 45)))]) (ob2 := []) ?_ ?_)
 ·rcases bt (decide (p0 ≥ 97)) with h1 | h1
  ·rcases bt (decide (p0 ≤ 122)) with h2 | h2
   ·exact RT hnt (nn 5 (pT :: .no :: sk 6 (pT :: .no :: sk 6 (pT :: .no :: sk 2 (pT :: .no :: sk 2 (pT :: .no :: [])))))) [(2, pB true)] (an3 h1 (an5 h2 (an5 tt (an6 tt trivial)))) (by kernel_rfl) (.cons rfl (.of_eq (by rw [h1, h2]; try rfl)) .nil)
   ·rcases bt (decide (p0 ≥ 65)) with h3 | h3
    ·rcases bt (decide (p0 ≤ 90)) with h4 | h4
     ·exact RT hnt (nn 5 (pT :: nn 6 (pT :: pF :: .no :: sk 6 (pT :: .no :: sk 2 (pT :: .no :: sk 2 (pT :: .no :: [])))))) [(2, pB true)] (an3 h1 (an3 h2 (an2 h3 (an h2 (an h3 (an h2 (an5 h4 (an6 tt trivial)))))))) (by kernel_rfl) (.cons rfl (.of_eq (by rw [h1, h2, h3, h4]; try rfl)) .nil)
     ·rcases bt (decide (p0 ≥ 48)) with h5 | h5
      ·rcases bt (decide (p0 ≤ 57)) with h6 | h6
       ·exact RT hnt (nn 5 (pT :: nn 6 (pT :: pF :: nn 6 (pT :: pF :: .no :: sk 2 (pT :: .no :: sk 2 (pT :: .no :: [])))))) [(2, pB true)] (an3 h1 (an3 h2 (an2 h3 (an h2 (an h3 (an h2 (an3 h4 (an2 h5 (an h4 (an h5 (an h4 (an3 h6 (an3 tt trivial))))))))))))) (by kernel_rfl) (.cons rfl (.of_eq (by rw [h1, h2, h3, h4, h5, h6]; try rfl)) .nil)
       ·rcases bt (p0 == 95) with h7 | h7
        ·exact RT hnt (nn 5 (pT :: nn 6 (pT :: pF :: nn 6 (pT :: pF :: nn 3 (pF :: .no :: sk 2 (pT :: .no :: [])))))) [(2, pB true)] (an3 h1 (an3 h2 (an2 h3 (an h2 (an h3 (an h2 (an3 h4 (an2 h5 (an h4 (an h5 (an h4 (an3 h6 (an3 h7 trivial))))))))))))) (by kernel_rfl) (.cons rfl (.of_eq (by rw [h1, h2, h3, h4, h5, h6, h7]; try rfl)) .nil)
        ·exact RT hnt (nn 5 (pT :: nn 6 (pT :: pF :: nn 6 (pT :: pF :: nn 3 (pF :: nn 3 (pF :: .no :: [])))))) [(2, pB (p0 == 45))] (an3 h1 (an3 h2 (an2 h3 (an h2 (an h3 (an h2 (an3 h4 (an2 h5 (an h4 (an h5 (an h4 (an3 h6 (an3 h7 trivial))))))))))))) (by kernel_rfl) (.cons rfl (.of_eq (by rw [h1, h2, h3, h4, h5, h6, h7]; try rfl)) .nil)
      ·rcases bt (p0 == 95) with h8 | h8
       ·exact RT hnt (nn 5 (pT :: nn 6 (pT :: pF :: nn 4 (sk 2 (pF :: pF :: nn 3 (pF :: .no :: sk 2 (pT :: .no :: []))))))) [(2, pB true)] (an3 h1 (an3 h2 (an2 h3 (an h2 (an h3 (an h2 (an3 h4 (an2 h5 (an h4 (an h5 (an h4 (an3 ff (an3 h8 trivial))))))))))))) (by kernel_rfl) (.cons rfl (.of_eq (by rw [h1, h2, h3, h4, h5, h8]; try rfl)) .nil)
       ·exact RT hnt (nn 5 (pT :: nn 6 (pT :: pF :: nn 4 (sk 2 (pF :: pF :: nn 3 (pF :: nn 3 (pF :: .no :: []))))))) [(2, pB (p0 == 45))] (an3 h1 (an3 h2 (an2 h3 (an h2 (an h3 (an h2 (an3 h4 (an2 h5 (an h4 (an h5 (an h4 (an3 ff (an3 h8 trivial))))))))))))) (by kernel_rfl) (.cons rfl (.of_eq (by rw [h1, h2, h3, h4, h5, h8]; try rfl)) .nil)
    ·rcases bt (decide (p0 ≥ 48)) with h9 | h9
     ·rcases bt (decide (p0 ≤ 57)) with h10 | h10
      ·exact RT hnt (nn 5 (pT :: nn 4 (sk 2 (pF :: pF :: nn 6 (pT :: pF :: .no :: sk 2 (pT :: .no :: sk 2 (pT :: .no :: []))))))) [(2, pB true)] (an3 h1 (an3 h2 (an2 h3 (an h2 (an h3 (an h2 (an3 ff (an2 h9 (an ff (an h9 (an ff (an3 h10 (an3 tt trivial))))))))))))) (by kernel_rfl) (.cons rfl (.of_eq (by rw [h1, h2, h3, h9, h10]; try rfl)) .nil)
      ·rcases bt (p0 == 95) with h11 | h11
       ·exact RT hnt (nn 5 (pT :: nn 4 (sk 2 (pF :: pF :: nn 6 (pT :: pF :: nn 3 (pF :: .no :: sk 2 (pT :: .no :: []))))))) [(2, pB true)] (an3 h1 (an3 h2 (an2 h3 (an h2 (an h3 (an h2 (an3 ff (an2 h9 (an ff (an h9 (an ff (an3 h10 (an3 h11 trivial))))))))))))) (by kernel_rfl) (.cons rfl (.of_eq (by rw [h1, h2, h3, h9, h10, h11]; try rfl)) .nil)
       ·exact RT hnt (nn 5 (pT :: nn 4 (sk 2 (pF :: pF :: nn 6 (pT :: pF :: nn 3 (pF :: nn 3 (pF :: .no :: []))))))) [(2, pB (p0 == 45))] (an3 h1 (an3 h2 (an2 h3 (an h2 (an h3 (an h2 (an3 ff (an2 h9 (an ff (an h9 (an ff (an3 h10 (an3 h11 trivial))))))))))))) (by kernel_rfl) (.cons rfl (.of_eq (by rw [h1, h2, h3, h9, h10, h11]; try rfl)) .nil)
     ·rcases bt (p0 == 95) with h12 | h12
      ·exact RT hnt (nn 5 (pT :: nn 4 (sk 2 (pF :: pF :: nn 4 (sk 2 (pF :: pF :: nn 3 (pF :: .no :: sk 2 (pT :: .no :: [])))))))) [(2, pB true)] (an3 h1 (an3 h2 (an2 h3 (an h2 (an h3 (an h2 (an3 ff (an2 h9 (an ff (an h9 (an4 ff (an3 h12 trivial)))))))))))) (by kernel_rfl) (.cons rfl (.of_eq (by rw [h1, h2, h3, h9, h12]; try rfl)) .nil)
      ·exact RT hnt (nn 5 (pT :: nn 4 (sk 2 (pF :: pF :: nn 4 (sk 2 (pF :: pF :: nn 3 (pF :: nn 3 (pF :: .no :: [])))))))) [(2, pB (p0 == 45))] (an3 h1 (an3 h2 (an2 h3 (an h2 (an h3 (an h2 (an3 ff (an2 h9 (an ff (an h9 (an4 ff (an3 h12 trivial)))))))))))) (by kernel_rfl) (.cons rfl (.of_eq (by rw [h1, h2, h3, h9, h12]; try rfl)) .nil)
  ·rcases bt (decide (p0 ≥ 65)) with h13 | h13
   ·rcases bt (decide (p0 ≤ 90)) with h14 | h14
    ·exact RT hnt (nn 3 (sk 2 (pF :: nn 6 (pT :: pF :: .no :: sk 6 (pT :: .no :: sk 2 (pT :: .no :: sk 2 (pT :: .no :: []))))))) [(2, pB true)] (an3 h1 (an3 ff (an2 h13 (an ff (an h13 (an ff (an5 h14 (an6 tt trivial)))))))) (by kernel_rfl) (.cons rfl (.of_eq (by rw [h1, h13, h14]; try rfl)) .nil)
    ·rcases bt (decide (p0 ≥ 48)) with h15 | h15
     ·rcases bt (decide (p0 ≤ 57)) with h16 | h16
      ·exact RT hnt (nn 3 (sk 2 (pF :: nn 6 (pT :: pF :: nn 6 (pT :: pF :: .no :: sk 2 (pT :: .no :: sk 2 (pT :: .no :: []))))))) [(2, pB true)] (an3 h1 (an3 ff (an2 h13 (an ff (an h13 (an ff (an3 h14 (an2 h15 (an h14 (an h15 (an h14 (an3 h16 (an3 tt trivial))))))))))))) (by kernel_rfl) (.cons rfl (.of_eq (by rw [h1, h13, h14, h15, h16]; try rfl)) .nil)
      ·rcases bt (p0 == 95) with h17 | h17
       ·exact RT hnt (nn 3 (sk 2 (pF :: nn 6 (pT :: pF :: nn 6 (pT :: pF :: nn 3 (pF :: .no :: sk 2 (pT :: .no :: []))))))) [(2, pB true)] (an3 h1 (an3 ff (an2 h13 (an ff (an h13 (an ff (an3 h14 (an2 h15 (an h14 (an h15 (an h14 (an3 h16 (an3 h17 trivial))))))))))))) (by kernel_rfl) (.cons rfl (.of_eq (by rw [h1, h13, h14, h15, h16, h17]; try rfl)) .nil)
       ·exact RT hnt (nn 3 (sk 2 (pF :: nn 6 (pT :: pF :: nn 6 (pT :: pF :: nn 3 (pF :: nn 3 (pF :: .no :: []))))))) [(2, pB (p0 == 45))] (an3 h1 (an3 ff (an2 h13 (an ff (an h13 (an ff (an3 h14 (an2 h15 (an h14 (an h15 (an h14 (an3 h16 (an3 h17 trivial))))))))))))) (by kernel_rfl) (.cons rfl (.of_eq (by rw [h1, h13, h14, h15, h16, h17]; try rfl)) .nil)
     ·rcases bt (p0 == 95) with h18 | h18
      ·exact RT hnt (nn 3 (sk 2 (pF :: nn 6 (pT :: pF :: nn 4 (sk 2 (pF :: pF :: nn 3 (pF :: .no :: sk 2 (pT :: .no :: [])))))))) [(2, pB true)] (an3 h1 (an3 ff (an2 h13 (an ff (an h13 (an ff (an3 h14 (an2 h15 (an h14 (an h15 (an h14 (an3 ff (an3 h18 trivial))))))))))))) (by kernel_rfl) (.cons rfl (.of_eq (by rw [h1, h13, h14, h15, h18]; try rfl)) .nil)
      ·exact RT hnt (nn 3 (sk 2 (pF :: nn 6 (pT :: pF :: nn 4 (sk 2 (pF :: pF :: nn 3 (pF :: nn 3 (pF :: .no :: [])))))))) [(2, pB (p0 == 45))] (an3 h1 (an3 ff (an2 h13 (an ff (an h13 (an ff (an3 h14 (an2 h15 (an h14 (an h15 (an h14 (an3 ff (an3 h18 trivial))))))))))))) (by kernel_rfl) (.cons rfl (.of_eq (by rw [h1, h13, h14, h15, h18]; try rfl)) .nil)
   ·rcases bt (decide (p0 ≥ 48)) with h19 | h19
    ·rcases bt (decide (p0 ≤ 57)) with h20 | h20
     ·exact RT hnt (nn 3 (sk 2 (pF :: nn 4 (sk 2 (pF :: pF :: nn 6 (pT :: pF :: .no :: sk 2 (pT :: .no :: sk 2 (pT :: .no :: [])))))))) [(2, pB true)] (an3 h1 (an3 ff (an2 h13 (an ff (an h13 (an4 ff (an2 h19 (an ff (an h19 (an ff (an3 h20 (an3 tt trivial)))))))))))) (by kernel_rfl) (.cons rfl (.of_eq (by rw [h1, h13, h19, h20]; try rfl)) .nil)
     ·rcases bt (p0 == 95) with h21 | h21
      ·exact RT hnt (nn 3 (sk 2 (pF :: nn 4 (sk 2 (pF :: pF :: nn 6 (pT :: pF :: nn 3 (pF :: .no :: sk 2 (pT :: .no :: [])))))))) [(2, pB true)] (an3 h1 (an3 ff (an2 h13 (an ff (an h13 (an4 ff (an2 h19 (an ff (an h19 (an ff (an3 h20 (an3 h21 trivial)))))))))))) (by kernel_rfl) (.cons rfl (.of_eq (by rw [h1, h13, h19, h20, h21]; try rfl)) .nil)
      ·exact RT hnt (nn 3 (sk 2 (pF :: nn 4 (sk 2 (pF :: pF :: nn 6 (pT :: pF :: nn 3 (pF :: nn 3 (pF :: .no :: [])))))))) [(2, pB (p0 == 45))] (an3 h1 (an3 ff (an2 h13 (an ff (an h13 (an4 ff (an2 h19 (an ff (an h19 (an ff (an3 h20 (an3 h21 trivial)))))))))))) (by kernel_rfl) (.cons rfl (.of_eq (by rw [h1, h13, h19, h20, h21]; try rfl)) .nil)
    ·rcases bt (p0 == 95) with h22 | h22
     ·exact RT hnt (nn 3 (sk 2 (pF :: nn 4 (sk 2 (pF :: pF :: nn 4 (sk 2 (pF :: pF :: nn 3 (pF :: .no :: sk 2 (pT :: .no :: []))))))))) [(2, pB true)] (an3 h1 (an3 ff (an2 h13 (an ff (an h13 (an4 ff (an2 h19 (an ff (an h19 (an4 ff (an3 h22 trivial))))))))))) (by kernel_rfl) (.cons rfl (.of_eq (by rw [h1, h13, h19, h22]; try rfl)) .nil)
     ·exact RT hnt (nn 3 (sk 2 (pF :: nn 4 (sk 2 (pF :: pF :: nn 4 (sk 2 (pF :: pF :: nn 3 (pF :: nn 3 (pF :: .no :: []))))))))) [(2, pB (p0 == 45))] (an3 h1 (an3 ff (an2 h13 (an ff (an h13 (an4 ff (an2 h19 (an ff (an h19 (an4 ff (an3 h22 trivial))))))))))) (by kernel_rfl) (.cons rfl (.of_eq (by rw [h1, h13, h19, h22]; try rfl)) .nil)
 ·refine DW.ret ?_
  obtain rfl := Option.some.inj hm
  exact retK [] [] (pB ((((((decide (p0 ≥ 97)) && (decide (p0 ≤ 122))) || ((decide (p0 ≥ 65)) && (decide (p0 ≤ 90)))) || ((decide (p0 ≥ 48)) && (decide (p0 ≤ 57)))) || (p0 == 95)) || (p0 == 45)))

theorem Valid_nameSpec (p0 : ByteArray) (RES : Bool) (hm : Valid_name p0 = some RES) : Spec Tryz.prog 167 [pS p0] [] (pB RES) [] [] := by
 unfold Valid_name at hm
 refine SO Tryz.func167 rfl rfl [(0, pS p0)] [] ?_
 intro cx hnt
 refine DW.seq (RK hnt (.no :: []) [(0, pS p0)] [] trivial ?_)
 refine DW.seq (DW.seq (RN hnt (nn 4 []) [(0, pS p0), (6, .p (slOf 1 (encK .u8) 0 (bytesL p0))), (7, pI ((p0.size : Nat) : Int)), (8, pI 0)] [] [(6, .p (.sl .unk 1 p0.size (bytesF p0)))] [] trivial (by kernel_rfl) (.cons rfl (MLe.typed RowIs.bytes) .nil) .nil ?_))
 refine DW.block ?_
 obtain ⟨hc1, hm⟩ := guard_open hm
 refine DW.rangeO (fun (k1 : Nat) (s1 : Unit) => mkSt [(0, pS p0), (6, .p (slOf 1 (encK .u8) 0 (bytesL p0))), (7, pI ((p0.size : Nat) : Int)), (8, pI ((k1 : Nat) : Int))] []) 0 hm .refl ?_
 intro k1 s1 n1 hk1 hs1 he1
 refine DW.seq (RD hnt (.no :: []) [] [(9, pB (decide (((k1 : Nat) : Int) < ((p0.size : Nat) : Int))))] [] [] trivial ?_)
 refine DW.seq (condK (decide (((k1 : Nat) : Int) < ((p0.size : Nat) : Int))) ?_ ?_)
 ·intro h15
  have hlt1 : k1 < (bytesL p0).length := by have := of_decide_eq_true h15; have := bytesL_length p0; omega
  have hm := hs1 hlt1
  unfold Valid_nameL1 at hm
  refine DW.skip ?_
  refine DW.seq (DW.block ?_)
  refine DW.seq (RD hnt (nn 3 []) [9] [(4, .p (vk .u8 ((bytesL p0).getD k1 0)))] [] [] (an (nn0 k1) (an (ltc hlt1) trivial)) ?_)
  obtain ⟨r16, hr16, hm⟩ := bind_open hm
  refine DW.seq (RD hnt (.no :: .call 176 [] true (pB r16) [] [] :: .no :: []) [4] [(14, pB (!r16))] [] [] (an (inner_nameSpec ((bytesL p0).getD k1 0) r16 hr16) trivial) ?_)
  refine condM hm ?_ ?_
  ·intro h17 hm
   refine DW.seq (RK hnt (.no :: []) [(2, pB false)] [] trivial ?_)
   refine DW.ret ?_
   obtain rfl := Option.some.inj hm
   exact retK [] [] (pB false)
  ·intro h17 hm
   refine DW.skip ?_
   refine DW.done ?_
   show DW _ _ _ _ _
   refine RD hnt (nn 2 []) [14] [(8, pI (w64 (((k1 : Nat) : Int) + 1)))] [] [] trivial ?_
   exact joinDone () ⟨hlt1, hm⟩ (Conv.tp [(8, pI (w64 (((k1 : Nat) : Int) + 1)))] [] (by kernel_rfl) (.cons rfl (.of_eq (congrArg pI (w64_succ hlt1 hc1))) .nil) .nil)
 ·intro h15
  have hge1 : ¬ k1 < (bytesL p0).length := by have := of_decide_eq_false h15; have := bytesL_length p0; omega
  have hm := he1 hge1
  unfold Valid_nameD1 at hm
  refine DW.exit ?_
  refine joinQ_exit ?_
  refine KQ_exit ?_
  refine blockQ_exit ?_
  show DW _ _ _ _ _
  refine DW.seq ?_
  refine DW.join (ι := Bool) (fun (y3 : Bool) => mkSt [(2, pB y3)] []) (fun y3 => Valid_nameJ3 y3 = some RES) ?_ ?_
  ·intro y3 hm
   unfold Valid_nameJ3 at hm
   refine DW.ret ?_
   obtain rfl := Option.some.inj hm
   exact retK [] [] (pB y3)
  ·rcases bt (!(beqS p0 ByteArray.empty)) with h18 | h18
   ·replace hm := if_t h18 hm
    rcases bt (decide (((p0.size : Nat) : Int) ≤ 32)) with h19 | h19
    ·replace hm := if_t h19 hm
     obtain ⟨g20, hm⟩ := guard_open hm
     refine RK hnt (nn 6 (pT :: nn 4 (pT :: .no :: []))) [(2, pB ((((byteAt p0 0) : Nat) : Int) != 45))] [] (an4 h18 (an2 h19 (an (nn0 0) (an (ltc g20) (an2 h19 trivial))))) ?_
     exact joinDone ((((byteAt p0 0) : Nat) : Int) != 45) hm .refl
    ·replace hm := if_f h19 hm
     refine RK hnt (nn 6 (pT :: .no :: sk 3 (pF :: .no :: []))) [(2, pB false)] [] (an4 h18 (an4 h19 trivial)) ?_
     exact joinDone false hm .refl
   ·replace hm := if_f h18 hm
    refine RK hnt (nn 3 (sk 3 (pF :: .no :: sk 3 (pF :: .no :: [])))) [(2, pB false)] [] (an4 h18 (an4 ff trivial)) ?_
    exact joinDone false hm .refl

abbrev c153e1 (p0 : List Node) (k1 : Nat) := (p0.getD k1 (default : Node))
theorem fine_treeSpec (p0 : List Node) (p1 : Node) (RES : Bool) (hm : fine_tree p0 p1 = some RES) : Spec Tryz.prog 153 [.p (slNode p0), .p (.agg (encNode p1))] [] (pB RES) [] [] := by
 unfold fine_tree at hm
 refine SO Tryz.func153 rfl rfl [(0, .p (slNode p0)), (1, .p (.agg (encNode p1)))] [] ?_
 intro cx hnt
 refine DW.seq (RD hnt (nn 2 []) [1] [(3, rr 1024)] [] [(1024, bx (pm (encNode p1)))] trivial ?_)
 obtain ⟨g1, hm⟩ := guard_open hm
 refine DW.seq (DW.seq ?_)
 refine DW.join (ι := Bool) (fun (y1 : Bool) => mkSt [(0, .p (slNode p0)), (3, rr 1024), (33, pB y1)] [(1024, bx (pm (encNode p1)))]) (fun y1 => (fine_treeJ1 p0 p1) y1 = some RES) ?_ ?_
 ·intro y1 hm
  unfold fine_treeJ1 at hm
  refine condM hm ?_ ?_
  ·intro h6 hm
   refine DW.seq (RK hnt (.no :: []) [(4, pB false)] [] trivial ?_)
   refine DW.ret ?_
   obtain rfl := Option.some.inj hm
   exact retK [] [] (pB false)
  ·intro h6 hm
   refine DW.skip ?_
   refine DW.seq (RD hnt (.no :: []) [33] [(5, pB false)] [] [] trivial ?_)
   refine DW.seq (DW.seq (RD hnt (nn 3 []) [0] [(34, .p (slNode p0)), (35, pI ((p0.length : Nat) : Int)), (36, pI 0)] [] [] trivial ?_))
   refine DW.block ?_
   obtain ⟨hc1, hm⟩ := guard_open hm
   refine DW.rangeO (fun (k1 : Nat) (s1 : Bool) => mkSt [(3, rr 1024), (5, pB s1), (34, .p (slNode p0)), (35, pI ((p0.length : Nat) : Int)), (36, pI ((k1 : Nat) : Int))] [(1024, bx (pm (encNode p1)))]) dNode hm Conv.eqK ?_
   intro k1 s1 n1 hk1 hs1 he1
   refine DW.seq (RD hnt (.no :: []) [] [(37, pB (decide (((k1 : Nat) : Int) < ((p0.length : Nat) : Int))))] [] [] trivial ?_)
   refine DW.seq (condK (decide (((k1 : Nat) : Int) < ((p0.length : Nat) : Int))) ?_ ?_)
   ·intro h16
    have hlt1 : k1 < p0.length := by have := of_decide_eq_true h16; omega
    have hm := hs1 hlt1
    unfold fine_treeL1 at hm
    refine DW.skip ?_
    refine DW.seq (DW.block ?_)
    refine DW.seq (RD hnt (nn 4 []) [37] [(7, rr 1056)] [] [(1056, bx (pm (encNode (c153e1 p0 k1))))] (an (nn0 k1) (an (ltc hlt1) trivial)) ?_)
    refine DW.seq (DW.regJ (sl2 := [(3, rr 1024), (5, pB (s1 || ((c153e1 p0 k1).id == p1.parent))), (7, rr 1056), (34, .p (slNode p0)), (35, pI ((p0.length : Nat) : Int)), (36, pI ((k1 : Nat) : Int))]) (ob2 := [(1024, bx (pm (encNode p1))), (1056, bx (pm (encNode (c153e1 p0 k1))))]) ?_ ?_)
    ·rcases bt s1 with h17 | h17
     ·exact RT hnt (nn 2 (sk 5 (pT :: .no :: []))) [(5, pB true)] (an6 h17 trivial) (by kernel_rfl) (.cons rfl (.of_eq (by rw [h17]; try rfl)) .nil)
     ·exact RT hnt (nn 7 (pF :: .no :: [])) [(5, pB ((c153e1 p0 k1).id == p1.parent))] (an6 h17 trivial) (by kernel_rfl) (.cons rfl (.of_eq (by rw [h17]; try rfl)) .nil)
    ·refine DW.seq (DW.regJ (sl2 := [(3, rr 1024), (5, pB (s1 || ((c153e1 p0 k1).id == p1.parent))), (34, .p (slNode p0)), (35, pI ((p0.length : Nat) : Int)), (36, pI ((k1 : Nat) : Int)), (59, pB (((c153e1 p0 k1).parent == p1.parent) && (beqS (c153e1 p0 k1).name p1.name)))]) (ob2 := [(1024, bx (pm (encNode p1)))]) ?_ ?_)
     ·rcases bt ((c153e1 p0 k1).parent == p1.parent) with h18 | h18
      ·exact RT hnt (nn 11 (pT :: [])) [(59, pB (beqS (c153e1 p0 k1).name p1.name))] (an6 h18 trivial) (by kernel_rfl) (.cons rfl (.of_eq (by rw [h18]; try rfl)) .nil)
      ·exact RT hnt (nn 6 (sk 5 (pF :: []))) [(59, pB false)] (an6 h18 trivial) (by kernel_rfl) (.cons rfl (.of_eq (by rw [h18]; try rfl)) .nil)
     ·refine condM hm ?_ ?_
      ·intro h19 hm
       refine DW.seq (RK hnt (.no :: []) [(4, pB false)] [] trivial ?_)
       refine DW.ret ?_
       obtain rfl := Option.some.inj hm
       exact retK [] [] (pB false)
      ·intro h19 hm
       refine DW.skip ?_
       refine DW.done ?_
       show DW _ _ _ _ _
       refine RD hnt (nn 2 []) [59] [(36, pI (w64 (((k1 : Nat) : Int) + 1)))] [] [] trivial ?_
       exact joinDone (s1 || ((c153e1 p0 k1).id == p1.parent)) ⟨hlt1, hm⟩ (Conv.tp [(36, pI (w64 (((k1 : Nat) : Int) + 1)))] [] (by kernel_rfl) (.cons rfl (.of_eq (congrArg pI (w64_succ hlt1 hc1))) .nil) .nil)
   ·intro h16
    have hge1 : ¬ k1 < p0.length := by have := of_decide_eq_false h16; omega
    have hm := he1 hge1
    unfold fine_treeD1 at hm
    refine DW.exit ?_
    refine joinQ_exit ?_
    refine KQ_exit ?_
    refine blockQ_exit ?_
    show DW _ _ _ _ _
    refine DW.seq (RK hnt (nn 2 []) [(4, pB s1)] [] trivial ?_)
    refine DW.ret ?_
    obtain rfl := Option.some.inj hm
    exact retK [] [] (pB s1)
 ·rcases bt (decide (p1.id ≤ (p0.getD (Int.toNat (w64 (((p0.length : Nat) : Int) - 1))) dNode).id)) with h2 | h2
  ·replace hm := if_t h2 hm
   refine RD hnt (nn 11 (sk 4 (pT :: .no :: sk 8 (pT :: [])))) [] [(33, pB true)] [] [] (an g1.1 (an g1.2 (an5 h2 (an6 tt trivial)))) ?_
   exact joinDone true hm Conv.eqK
  ·replace hm := if_f h2 hm
   obtain ⟨r3, hr3, hm⟩ := bind_open hm
   rcases bt (!r3) with h4 | h4
   ·replace hm := if_t h4 hm
    refine RD hnt (nn 13 (.call 167 [] true (pB r3) [] [] :: .no :: pF :: .no :: sk 8 (pT :: []))) [] [(33, pB true)] [] [] (an g1.1 (an g1.2 (an3 h2 (an (Valid_nameSpec p1.name r3 hr3) (an2 h2 (an6 h4 trivial)))))) ?_
    exact joinDone true hm Conv.eqK
   ·replace hm := if_f h4 hm
    rcases bt (p1.kind != 0) with h5 | h5
    ·replace hm := if_t h5 hm
     refine RD hnt (nn 13 (.call 167 [] true (pB r3) [] [] :: .no :: pF :: nn 8 (pT :: pF :: []))) [] [(33, pB (p1.kind != 1))] [] [] (an g1.1 (an g1.2 (an3 h2 (an (Valid_nameSpec p1.name r3 hr3) (an2 h2 (an4 h4 (an3 h5 (an h4 (an h5 (an h4 trivial)))))))))) ?_
     exact joinDone (p1.kind != 1) hm Conv.eqK
    ·replace hm := if_f h5 hm
     refine RD hnt (nn 13 (.call 167 [] true (pB r3) [] [] :: .no :: pF :: nn 5 (sk 3 (pF :: pF :: [])))) [] [(33, pB false)] [] [] (an g1.1 (an g1.2 (an3 h2 (an (Valid_nameSpec p1.name r3 hr3) (an2 h2 (an4 h4 (an3 h5 (an h4 (an h5 (an h4 trivial)))))))))) ?_
     exact joinDone false hm Conv.eqK

abbrev c108e1 (p0 : Tree) (k1 : Nat) := (p0.nodes.getD k1 (default : Node))
abbrev c108e2 (p0 : Tree) : Nat × MV := (27, pI ((p0.nodes.length : Nat) : Int))
abbrev c108e3 (p0 : Tree) : Nat × Obj := (1008, bx (pm (encTree p0)))
theorem Check_treeSpec (p0 : Tree) (RES : Bool) (hm : Check_tree p0 = some RES) : Spec Tryz.prog 108 [.p (.agg (encTree p0))] [] (pB RES) [] [] := by
 unfold Check_tree at hm
 refine SO Tryz.func108 rfl rfl [(0, .p (.agg (encTree p0)))] [] ?_
 intro cx hnt
 refine DW.seq (RK hnt (nn 2 []) [(1, rr 1008)] [(c108e3 p0)] trivial ?_)
 refine DW.seq (DW.seq ?_)
 refine DW.join (ι := Bool) (fun (y1 : Bool) => mkSt [(1, rr 1008), (23, pB y1)] [(c108e3 p0)]) (fun y1 => (Check_treeJ1 p0) y1 = some RES) ?_ ?_
 ·intro y1 hm
  unfold Check_treeJ1 at hm
  refine condM hm ?_ ?_
  ·intro h5 hm
   refine DW.seq (RK hnt (.no :: []) [(2, pB false)] [] trivial ?_)
   refine DW.ret ?_
   obtain rfl := Option.some.inj hm
   exact retK [] [] (pB false)
  ·intro h5 hm
   refine DW.skip ?_
   refine DW.seq (RD hnt (nn 2 []) [23] [(3, .mref 1192 0)] [] [(1192, ob0 (mapOf vi (vi 0) (IMap.empty 0)))] trivial ?_)
   refine DW.seq (DW.seq (RD hnt (nn 4 []) [] [(26, .p (slNode p0.nodes)), (c108e2 p0), (28, pI 0)] [] [] trivial ?_))
   refine DW.block ?_
   obtain ⟨hc1, hm⟩ := guard_open hm
   refine DW.rangeO (fun (k1 : Nat) (s1 : IMap Int) => mkSt [(1, rr 1008), (3, .mref 1192 0), (26, .p (slNode p0.nodes)), (c108e2 p0), (28, pI ((k1 : Nat) : Int))] [(c108e3 p0), (1192, ob0 (mapOf vi (vi 0) s1))]) dNode hm Conv.eqK ?_
   intro k1 s1 n1 hk1 hs1 he1
   refine DW.seq (RD hnt (.no :: []) [] [(29, pB (decide (((k1 : Nat) : Int) < ((p0.nodes.length : Nat) : Int))))] [] [] trivial ?_)
   refine DW.seq (condK (decide (((k1 : Nat) : Int) < ((p0.nodes.length : Nat) : Int))) ?_ ?_)
   ·intro h36
    have hlt1 : k1 < p0.nodes.length := by have := of_decide_eq_true h36; omega
    have hm := hs1 hlt1
    unfold Check_treeL1 at hm
    refine DW.skip ?_
    refine DW.seq (DW.block ?_)
    refine DW.seq (RD hnt (nn 6 []) [29] [(4, pI ((k1 : Nat) : Int)), (5, rr 1040)] [] [(1040, bx (pm (encNode (c108e1 p0 k1))))] (an (nn0 k1) (an (ltc hlt1) trivial)) ?_)
    refine DW.seq (DW.seq ?_)
    refine DW.join (ι := Bool) (fun (y8 : Bool) => mkSt [(1, rr 1008), (3, .mref 1192 0), (4, pI ((k1 : Nat) : Int)), (5, rr 1040), (26, .p (slNode p0.nodes)), (c108e2 p0), (28, pI ((k1 : Nat) : Int)), (64, pB y8)] [(c108e3 p0), (1040, bx (pm (encNode (c108e1 p0 k1)))), (1192, ob0 (mapOf vi (vi 0) s1))]) (fun y8 => (Check_treeJ8 k1 (c108e1 p0 k1) s1 n1) y8 = some RES) ?_ ?_
    ·intro y8 hm
     unfold Check_treeJ8 at hm
     refine condM hm ?_ ?_
     ·intro h44 hm
      refine DW.seq (RK hnt (.no :: []) [(2, pB false)] [] trivial ?_)
      refine DW.ret ?_
      obtain rfl := Option.some.inj hm
      exact retK [] [] (pB false)
     ·intro h44 hm
      refine DW.skip ?_
      refine DW.seq (DW.seq (RD hnt (nn 2 []) [4, 64] [(66, pB (decide (((k1 : Nat) : Int) > 0)))] [] [] trivial ?_))
      refine DW.join (ι := IMap Int) (fun (y9 : IMap Int) => mkSt [(1, rr 1008), (3, .mref 1192 0), (5, rr 1040), (26, .p (slNode p0.nodes)), (c108e2 p0), (28, pI ((k1 : Nat) : Int))] [(c108e3 p0), (1040, bx (pm (encNode (c108e1 p0 k1)))), (1192, ob0 (mapOf vi (vi 0) y9))]) (fun y9 => (Check_treeJ9 (c108e1 p0 k1) n1) y9 = some RES) ?_ ?_
      ·intro y9 hm
       unfold Check_treeJ9 at hm
       refine DW.seq (RD hnt (nn 5 []) [5] [(79, pB (decide ((y9.get (c108e1 p0 k1).id) > 8)))] [1040] [] (an (rfl : vi 0 = vi 0) trivial) ?_)
       refine condM hm ?_ ?_
       ·intro h46 hm
        refine DW.seq (RK hnt (.no :: []) [(2, pB false)] [] trivial ?_)
        refine DW.ret ?_
        obtain rfl := Option.some.inj hm
        exact retK [] [] (pB false)
       ·intro h46 hm
        refine DW.skip ?_
        refine DW.done ?_
        show DW _ _ _ _ _
        refine RD hnt (nn 2 []) [79] [(28, pI (w64 (((k1 : Nat) : Int) + 1)))] [] [] trivial ?_
        exact joinDone y9 ⟨hlt1, hm⟩ (Conv.tp [(28, pI (w64 (((k1 : Nat) : Int) + 1)))] [] (by kernel_rfl) (.cons rfl (.of_eq (congrArg pI (w64_succ hlt1 hc1))) .nil) .nil)
      ·refine condM hm ?_ ?_
       ·intro h45 hm
        refine RN hnt (nn 9 []) [(1, rr 1008), (3, .mref 1192 0), (5, rr 1040), (26, .p (slNode p0.nodes)), (c108e2 p0), (28, pI ((k1 : Nat) : Int))] [(c108e3 p0), (1040, bx (pm (encNode (c108e1 p0 k1)))), (1192, ob0 (mapOf vi (vi 0) (s1.set (c108e1 p0 k1).id (w64 ((s1.get (c108e1 p0 k1).parent) + 1)))))] [] [(1192, .mp (vi 0) (updI s1.has (c108e1 p0 k1).id true) (updI (fun j => vi (s1.get j)) (c108e1 p0 k1).id (vi (w64 ((s1.get (c108e1 p0 k1).parent) + 1)))))] (an (rfl : vi 0 = vi 0) trivial) (by kernel_rfl) .nil (.cons rfl (map_set (w64 ((s1.get (c108e1 p0 k1).parent) + 1)) rfl) .nil) ?_
        exact joinDone (s1.set (c108e1 p0 k1).id (w64 ((s1.get (c108e1 p0 k1).parent) + 1))) hm .refl
       ·intro h45 hm
        refine DW.skip ?_
        exact joinDone s1 hm Conv.t0
    ·rcases bt (decide ((c108e1 p0 k1).control < 0)) with h37 | h37
     ·replace hm := if_t h37 hm
      refine RD hnt (nn 4 (sk 4 (pT :: .no :: sk 3 (pT :: .no :: sk 3 (pT :: .no :: sk 11 (pT :: [])))))) [] [(64, pB true)] [] [] (an5 h37 (an tt (an6 tt (an6 tt trivial)))) ?_
      exact joinDone true hm Conv.eqK
     ·replace hm := if_f h37 hm
      rcases bt ((kandNot .i64 (c108e1 p0 k1).control 31) != 0) with h38 | h38
      ·replace hm := if_t h38 hm
       refine RD hnt (nn 8 (pF :: .no :: sk 3 (pT :: .no :: sk 3 (pT :: .no :: sk 11 (pT :: []))))) [] [(64, pB true)] [] [] (an5 h37 (an4 h38 (an3 tt (an6 tt trivial)))) ?_
       exact joinDone true hm Conv.eqK
      ·replace hm := if_f h38 hm
       rcases bt (decide ((c108e1 p0 k1).owner < 0)) with h39 | h39
       ·replace hm := if_t h39 hm
        refine RD hnt (nn 8 (pF :: nn 4 (pF :: .no :: sk 3 (pT :: .no :: sk 11 (pT :: []))))) [] [(64, pB true)] [] [] (an5 h37 (an4 h38 (an4 h39 (an5 tt trivial)))) ?_
        exact joinDone true hm Conv.eqK
       ·replace hm := if_f h39 hm
        rcases bt (decide ((c108e1 p0 k1).owner > 1048576)) with h40 | h40
        ·replace hm := if_t h40 hm
         refine RD hnt (nn 8 (pF :: nn 4 (pF :: nn 4 (pF :: .no :: sk 11 (pT :: []))))) [] [(64, pB true)] [] [] (an5 h37 (an4 h38 (an4 h39 (an5 h40 trivial)))) ?_
         exact joinDone true hm Conv.eqK
        ·replace hm := if_f h40 hm
         rcases bt (decide (((k1 : Nat) : Int) > 0)) with h41 | h41
         ·replace hm := if_t h41 hm
          obtain ⟨g42, hm⟩ := guard_open hm
          obtain ⟨r43, hr43, hm⟩ := bind_open hm
          refine RD hnt (nn 8 (pF :: nn 4 (pF :: nn 4 (pF :: nn 9 (.call 153 [] true (pB r43) [] [] :: .no :: pT :: pF :: []))))) [] [(64, pB (!r43))] [] [] (an5 h37 (an4 h38 (an4 h39 (an3 h40 (an4 h41 (an (by omega : (0 : Int) ≤ 0) (an (by omega : (0 : Int) ≤ ((k1 : Nat) : Int)) (an (by omega : ((k1 : Nat) : Int) ≤ ((p0.nodes.length : Nat) : Int)) (an2 h41 (an (Spec.args (xs := [.p (.sl .unk 6 k1 (elNode p0.nodes)), .p (.agg (encNode (c108e1 p0 k1)))]) (fine_treeSpec (p0.nodes.take k1) (c108e1 p0 k1) r43 hr43) (.cons (.p (PLe.typed (RowIs.elems.take (by omega)))) (.cons .rfl .nil))) (an h41 (an h40 (an h41 (an h40 trivial)))))))))))))) ?_
          exact joinDone (!r43) hm Conv.eqK
         ·replace hm := if_f h41 hm
          refine RD hnt (nn 8 (pF :: nn 4 (pF :: nn 4 (pF :: nn 4 (sk 7 (pF :: pF :: [])))))) [] [(64, pB false)] [] [] (an5 h37 (an4 h38 (an4 h39 (an3 h40 (an h41 (an6 h41 (an h40 (an h41 (an h40 trivial))))))))) ?_
          exact joinDone false hm Conv.eqK
   ·intro h36
    have hge1 : ¬ k1 < p0.nodes.length := by have := of_decide_eq_false h36; omega
    have hm := he1 hge1
    unfold Check_treeD1 at hm
    refine DW.exit ?_
    refine joinQ_exit ?_
    refine KQ_exit ?_
    refine blockQ_exit ?_
    show DW _ _ _ _ _
    obtain ⟨g47, hm⟩ := guard_open hm
    refine DW.seq ?_
    refine DW.join (ι := Bool) (fun (y10 : Bool) => mkSt [(2, pB y10)] []) (fun y10 => Check_treeJ10 y10 = some RES) ?_ ?_
    ·intro y10 hm
     unfold Check_treeJ10 at hm
     refine DW.ret ?_
     obtain rfl := Option.some.inj hm
     exact retK [] [] (pB y10)
    ·rcases bt (decide (p0.next > (p0.nodes.getD (Int.toNat (w64 (((p0.nodes.length : Nat) : Int) - 1))) dNode).id)) with h48 | h48
     ·replace hm := if_t h48 hm
      refine RK hnt (nn 16 (pT :: .no :: [])) [(2, pB (decide (p0.next ≤ 2147483648)))] [] (an g47.1 (an g47.2 (an4 h48 trivial))) ?_
      exact joinDone (decide (p0.next ≤ 2147483648)) hm .refl
     ·replace hm := if_f h48 hm
      refine RK hnt (nn 13 (sk 3 (pF :: .no :: []))) [(2, pB false)] [] (an g47.1 (an g47.2 (an4 h48 trivial))) ?_
      exact joinDone false hm .refl
 ·rcases bt (decide (((p0.nodes.length : Nat) : Int) < 1)) with h1 | h1
  ·replace hm := if_t h1 hm
   refine RD hnt (nn 5 (sk 4 (pT :: .no :: sk 6 (pT :: [])))) [] [(23, pB true)] [] [] (an5 h1 (an tt (an6 tt trivial))) ?_
   exact joinDone true hm Conv.eqK
  ·replace hm := if_f h1 hm
   rcases bt (decide (((p0.nodes.length : Nat) : Int) > 64)) with h2 | h2
   ·replace hm := if_t h2 hm
    refine RD hnt (nn 9 (pF :: .no :: sk 6 (pT :: []))) [] [(23, pB true)] [] [] (an5 h1 (an h2 (an6 h2 trivial))) ?_
    exact joinDone true hm Conv.eqK
   ·replace hm := if_f h2 hm
    obtain ⟨g3, hm⟩ := guard_open hm
    obtain ⟨r4, hr4, hm⟩ := bind_open hm
    refine RD hnt (nn 9 (pF :: nn 5 (.call 152 [] true (pB r4) [] [] :: .no :: pF :: []))) [] [(23, pB (!r4))] [] [] (an5 h1 (an3 h2 (an (nn0 0) (an (ltc g3) (an2 h2 (an (root_treeSpec (p0.nodes.getD 0 dNode) r4 hr4) (an2 h2 trivial))))))) ?_
    exact joinDone (!r4) hm Conv.eqK

theorem AtFa_crewSpec (p0 : Task) (p1 : Int) (RES : Bool) (hm : AtFa_crew p0 p1 = some RES) : Spec Tryz.prog 144 [.p (.agg (encTask p0)), rr 0] [.box [pI p1]] (pB RES) [.box [pI p1]] [] := by
 unfold AtFa_crew at hm
 refine SO Tryz.func144 rfl rfl [(0, .p (.agg (encTask p0))), (1, rr 0)] [(0, bx [pI p1])] ?_
 intro cx hnt
 refine DW.seq (RD hnt (nn 2 []) [0] [(2, rr 1016)] [] [(1016, bx (pm (encTask p0)))] trivial ?_)
 refine DW.seq (RK hnt (nn 5 []) [(3, pB (p0.id == p1))] [(0, bx [pI p1])] trivial ?_)
 refine DW.ret ?_
 obtain rfl := Option.some.inj hm
 exact retK [.box [pI p1]] [] (pB (p0.id == p1))

theorem IndexFunc_slices_TaskQAtFa_crewSpec (p0 : List Task) (p1c0 : Int) (RES : Int) (hm : IndexFunc_slices_TaskQAtFa_crew p0 p1c0 = some RES) : Spec Tryz.prog 143 [.p (slTask p0), .fn 144 [rr 0]] [.box [pI p1c0]] (pI RES) [.box [pI p1c0]] [] := by
 unfold IndexFunc_slices_TaskQAtFa_crew at hm
 refine SO Tryz.func143 rfl rfl [(0, .p (slTask p0)), (1, .fn 144 [rr 0])] [(0, bx [pI p1c0])] ?_
 intro cx hnt
 refine DW.seq (RD hnt (.no :: []) [] [] [] [] trivial ?_)
 refine DW.seq (DW.seq (RD hnt (nn 3 []) [] [(7, pI ((p0.length : Nat) : Int)), (8, pI 0)] [] [] trivial ?_))
 refine DW.block ?_
 obtain ⟨hc1, hm⟩ := guard_open hm
 refine DW.rangeO (fun (k1 : Nat) (s1 : Unit) => mkSt [(0, .p (slTask p0)), (1, .fn 144 [rr 0]), (7, pI ((p0.length : Nat) : Int)), (8, pI ((k1 : Nat) : Int))] [(0, bx [pI p1c0])]) dTask hm Conv.eqK ?_
 intro k1 s1 n1 hk1 hs1 he1
 refine DW.seq (RD hnt (.no :: []) [] [(9, pB (decide (((k1 : Nat) : Int) < ((p0.length : Nat) : Int))))] [] [] trivial ?_)
 refine DW.seq (condK (decide (((k1 : Nat) : Int) < ((p0.length : Nat) : Int))) ?_ ?_)
 ·intro h9
  have hlt1 : k1 < p0.length := by have := of_decide_eq_true h9; omega
  have hm := hs1 hlt1
  unfold IndexFunc_slices_TaskQAtFa_crewL1 at hm
  refine DW.skip ?_
  refine DW.seq (DW.block ?_)
  refine DW.seq (RD hnt (nn 2 []) [9] [(5, pI ((k1 : Nat) : Int))] [] [] trivial ?_)
  obtain ⟨r10, hr10, hm⟩ := bind_open hm
  refine DW.seq (RD hnt (nn 5 (.call 144 [0] true (pB r10) [.box [pI p1c0]] [] :: [])) [] [(16, pB r10)] [] [] (an (nn0 k1) (an (ltc hlt1) (an (AtFa_crewSpec (p0.getD k1 (default : Task)) p1c0 r10 hr10) (an trivial trivial)))) ?_)
  refine condM hm ?_ ?_
  ·intro h11 hm
   refine DW.seq (RK hnt (nn 2 []) [(4, pI ((k1 : Nat) : Int))] [(0, bx [pI p1c0])] trivial ?_)
   refine DW.ret ?_
   obtain rfl := Option.some.inj hm
   exact retK [.box [pI p1c0]] [] (pI ((k1 : Nat) : Int))
  ·intro h11 hm
   refine DW.skip ?_
   refine DW.done ?_
   show DW _ _ _ _ _
   refine RD hnt (nn 2 []) [5, 16] [(8, pI (w64 (((k1 : Nat) : Int) + 1)))] [] [] trivial ?_
   exact joinDone () ⟨hlt1, hm⟩ (Conv.tp [(8, pI (w64 (((k1 : Nat) : Int) + 1)))] [] (by kernel_rfl) (.cons rfl (.of_eq (congrArg pI (w64_succ hlt1 hc1))) .nil) .nil)
 ·intro h9
  have hge1 : ¬ k1 < p0.length := by have := of_decide_eq_false h9; omega
  have hm := he1 hge1
  unfold IndexFunc_slices_TaskQAtFa_crewD1 at hm
  refine DW.exit ?_
  refine joinQ_exit ?_
  refine KQ_exit ?_
  refine blockQ_exit ?_
  show DW _ _ _ _ _
  refine DW.seq (RK hnt (.no :: []) [(4, pI (-1))] [(0, bx [pI p1c0])] trivial ?_)
  refine DW.ret ?_
  obtain rfl := Option.some.inj hm
  exact retK [.box [pI p1c0]] [] (pI (-1))

theorem At_crewSpec (p0 : Hierarchy) (p1 : Int) (RES : Int) (hm : At_crew p0 p1 = some RES) : Spec Tryz.prog 95 [.p (.agg (encHierarchy p0)), pI p1] [] (pI RES) [] [] := by
 unfold At_crew at hm
 refine SO Tryz.func95 rfl rfl [(0, .p (.agg (encHierarchy p0))), (1, pI p1)] [] ?_
 intro cx hnt
 refine DW.seq (RK hnt (nn 3 []) [(2, rr 1016), (3, rr 1024)] [(1016, bx (pm (encHierarchy p0))), (1024, bx [pI p1])] trivial ?_)
 obtain ⟨r1, hr1, hm⟩ := bind_open hm
 refine DW.seq (RK hnt (nn 3 (.call 143 [1024] true (pI r1) [.box [pI p1]] [] :: .no :: [])) [(4, pI r1)] [] (an (IndexFunc_slices_TaskQAtFa_crewSpec p0.tasks p1 r1 hr1) (an trivial trivial)) ?_)
 refine DW.ret ?_
 obtain rfl := Option.some.inj hm
 exact retK [] [] (pI r1)

theorem Find_crewSpec (p0 : Hierarchy) (p1 : Int) (RES : Task × Bool) (hm : Find_crew p0 p1 = some RES) : Spec Tryz.prog 104 [.p (.agg (encHierarchy p0)), pI p1] [] (.p (.tup [.agg (encTask RES.1), vb RES.2])) [] [] := by
 unfold Find_crew at hm
 refine SO Tryz.func104 rfl rfl [(0, .p (.agg (encHierarchy p0))), (1, pI p1)] [] ?_
 intro cx hnt
 refine DW.seq (RK hnt (nn 3 []) [(1, pI p1), (2, rr 1016), (4, rr 1032)] [(1016, bx (pm (encHierarchy p0))), (1032, bx [pI 0, pI 0, pI 0, pI 0])] trivial ?_)
 obtain ⟨r1, hr1, hm⟩ := bind_open hm
 refine DW.seq (RD hnt (nn 2 (.call 95 [] true (pI r1) [] [] :: .no :: [])) [1] [(6, pI r1)] [] [] (an (At_crewSpec p0 p1 r1 hr1) trivial) ?_)
 refine DW.seq (DW.seq (RD hnt (nn 2 []) [] [(11, pB (decide (r1 < 0)))] [] [] trivial ?_))
 refine condM hm ?_ ?_
 ·intro h2 hm
  refine DW.seq (RD hnt (nn 3 []) [2, 6, 11] [(5, pB false)] [1016] [] trivial ?_)
  refine DW.ret ?_
  obtain rfl := Option.some.inj hm
  exact retK [] [] (.p (.tup [.agg [vi 0, vi 0, vi 0, vi 0], vb false]))
 ·intro h2 hm
  refine DW.skip ?_
  obtain ⟨g3, hm⟩ := guard_open hm
  refine DW.seq (RK hnt (nn 7 []) [(4, rr 1032), (5, pB true)] [(1032, bx (pm (encTask (p0.tasks.getD (Int.toNat r1) dTask))))] (an g3.1 (an g3.2 trivial)) ?_)
  refine DW.ret ?_
  obtain rfl := Option.some.inj hm
  exact retK [] [] (.p (.tup [.agg (encTask (p0.tasks.getD (Int.toNat r1) dTask)), vb true]))

theorem AtFa_forestSpec (p0 : Node) (p1 : Int) (RES : Bool) (hm : AtFa_forest p0 p1 = some RES) : Spec Tryz.prog 150 [.p (.agg (encNode p0)), rr 0] [.box [pI p1]] (pB RES) [.box [pI p1]] [] := by
 unfold AtFa_forest at hm
 refine SO Tryz.func150 rfl rfl [(0, .p (.agg (encNode p0))), (1, rr 0)] [(0, bx [pI p1])] ?_
 intro cx hnt
 refine DW.seq (RD hnt (nn 2 []) [0] [(2, rr 1016)] [] [(1016, bx (pm (encNode p0)))] trivial ?_)
 refine DW.seq (RK hnt (nn 5 []) [(3, pB (p0.id == p1))] [(0, bx [pI p1])] trivial ?_)
 refine DW.ret ?_
 obtain rfl := Option.some.inj hm
 exact retK [.box [pI p1]] [] (pB (p0.id == p1))

theorem IndexFunc_slices_NodeQAtFa_forestSpec (p0 : List Node) (p1c0 : Int) (RES : Int) (hm : IndexFunc_slices_NodeQAtFa_forest p0 p1c0 = some RES) : Spec Tryz.prog 149 [.p (slNode p0), .fn 150 [rr 0]] [.box [pI p1c0]] (pI RES) [.box [pI p1c0]] [] := by
 unfold IndexFunc_slices_NodeQAtFa_forest at hm
 refine SO Tryz.func149 rfl rfl [(0, .p (slNode p0)), (1, .fn 150 [rr 0])] [(0, bx [pI p1c0])] ?_
 intro cx hnt
 refine DW.seq (RD hnt (.no :: []) [] [] [] [] trivial ?_)
 refine DW.seq (DW.seq (RD hnt (nn 3 []) [] [(7, pI ((p0.length : Nat) : Int)), (8, pI 0)] [] [] trivial ?_))
 refine DW.block ?_
 obtain ⟨hc1, hm⟩ := guard_open hm
 refine DW.rangeO (fun (k1 : Nat) (s1 : Unit) => mkSt [(0, .p (slNode p0)), (1, .fn 150 [rr 0]), (7, pI ((p0.length : Nat) : Int)), (8, pI ((k1 : Nat) : Int))] [(0, bx [pI p1c0])]) dNode hm Conv.eqK ?_
 intro k1 s1 n1 hk1 hs1 he1
 refine DW.seq (RD hnt (.no :: []) [] [(9, pB (decide (((k1 : Nat) : Int) < ((p0.length : Nat) : Int))))] [] [] trivial ?_)
 refine DW.seq (condK (decide (((k1 : Nat) : Int) < ((p0.length : Nat) : Int))) ?_ ?_)
 ·intro h9
  have hlt1 : k1 < p0.length := by have := of_decide_eq_true h9; omega
  have hm := hs1 hlt1
  unfold IndexFunc_slices_NodeQAtFa_forestL1 at hm
  refine DW.skip ?_
  refine DW.seq (DW.block ?_)
  refine DW.seq (RD hnt (nn 2 []) [9] [(5, pI ((k1 : Nat) : Int))] [] [] trivial ?_)
  obtain ⟨r10, hr10, hm⟩ := bind_open hm
  refine DW.seq (RD hnt (nn 5 (.call 150 [0] true (pB r10) [.box [pI p1c0]] [] :: [])) [] [(16, pB r10)] [] [] (an (nn0 k1) (an (ltc hlt1) (an (AtFa_forestSpec (p0.getD k1 (default : Node)) p1c0 r10 hr10) (an trivial trivial)))) ?_)
  refine condM hm ?_ ?_
  ·intro h11 hm
   refine DW.seq (RK hnt (nn 2 []) [(4, pI ((k1 : Nat) : Int))] [(0, bx [pI p1c0])] trivial ?_)
   refine DW.ret ?_
   obtain rfl := Option.some.inj hm
   exact retK [.box [pI p1c0]] [] (pI ((k1 : Nat) : Int))
  ·intro h11 hm
   refine DW.skip ?_
   refine DW.done ?_
   show DW _ _ _ _ _
   refine RD hnt (nn 2 []) [5, 16] [(8, pI (w64 (((k1 : Nat) : Int) + 1)))] [] [] trivial ?_
   exact joinDone () ⟨hlt1, hm⟩ (Conv.tp [(8, pI (w64 (((k1 : Nat) : Int) + 1)))] [] (by kernel_rfl) (.cons rfl (.of_eq (congrArg pI (w64_succ hlt1 hc1))) .nil) .nil)
 ·intro h9
  have hge1 : ¬ k1 < p0.length := by have := of_decide_eq_false h9; omega
  have hm := he1 hge1
  unfold IndexFunc_slices_NodeQAtFa_forestD1 at hm
  refine DW.exit ?_
  refine joinQ_exit ?_
  refine KQ_exit ?_
  refine blockQ_exit ?_
  show DW _ _ _ _ _
  refine DW.seq (RK hnt (.no :: []) [(4, pI (-1))] [(0, bx [pI p1c0])] trivial ?_)
  refine DW.ret ?_
  obtain rfl := Option.some.inj hm
  exact retK [.box [pI p1c0]] [] (pI (-1))

theorem At_forestSpec (p0 : Tree) (p1 : Int) (RES : Int) (hm : At_forest p0 p1 = some RES) : Spec Tryz.prog 101 [.p (.agg (encTree p0)), pI p1] [] (pI RES) [] [] := by
 unfold At_forest at hm
 refine SO Tryz.func101 rfl rfl [(0, .p (.agg (encTree p0))), (1, pI p1)] [] ?_
 intro cx hnt
 refine DW.seq (RK hnt (nn 3 []) [(2, rr 1016), (3, rr 1024)] [(1016, bx (pm (encTree p0))), (1024, bx [pI p1])] trivial ?_)
 obtain ⟨r1, hr1, hm⟩ := bind_open hm
 refine DW.seq (RK hnt (nn 3 (.call 149 [1024] true (pI r1) [.box [pI p1]] [] :: .no :: [])) [(4, pI r1)] [] (an (IndexFunc_slices_NodeQAtFa_forestSpec p0.nodes p1 r1 hr1) (an trivial trivial)) ?_)
 refine DW.ret ?_
 obtain rfl := Option.some.inj hm
 exact retK [] [] (pI r1)

theorem fine_memberSpec (p0 : Hierarchy) (p1 : Task) (RES : Bool) (hm : fine_member p0 p1 = some RES) : Spec Tryz.prog 109 [.p (.agg (encHierarchy p0)), .p (.agg (encTask p1))] [] (pB RES) [] [] := by
 unfold fine_member at hm
 refine SO Tryz.func109 rfl rfl [(0, .p (.agg (encHierarchy p0))), (1, .p (.agg (encTask p1)))] [] ?_
 intro cx hnt
 refine DW.seq (RK hnt (nn 3 []) [(2, rr 1016), (3, rr 1024)] [(1016, bx (pm (encHierarchy p0))), (1024, bx (pm (encTask p1)))] trivial ?_)
 obtain ⟨r1, hr1, hm⟩ := bind_open hm
 refine DW.seq (RD hnt (nn 3 (.call 104 [] true (.p (.tup [.agg (encTask r1.1), vb r1.2])) [] [] :: nn 6 [])) [] [(5, rr 1040), (6, pB r1.2)] [] [(1040, bx (pm (encTask r1.1)))] (an (Find_crewSpec p0 p1.process r1 hr1) trivial) ?_)
 refine DW.seq ?_
 refine DW.join (ι := Bool) (fun (y1 : Bool) => mkSt [(4, pB y1)] []) (fun y1 => fine_memberJ1 y1 = some RES) ?_ ?_
 ·intro y1 hm
  unfold fine_memberJ1 at hm
  refine DW.ret ?_
  obtain rfl := Option.some.inj hm
  exact retK [] [] (pB y1)
 ·rcases bt (decide (p1.user ≥ 0)) with h2 | h2
  ·replace hm := if_t h2 hm
   rcases bt (decide (p1.user ≤ 1048576)) with h3 | h3
   ·replace hm := if_t h3 hm
    rcases bt r1.2 with h4 | h4
    ·replace hm := if_t h4 hm
     rcases bt (r1.1.process == r1.1.id) with h5 | h5
     ·replace hm := if_t h5 hm
      rcases bt (r1.1.user == p1.user) with h6 | h6
      ·replace hm := if_t h6 hm
       obtain ⟨r7, hr7, hm⟩ := bind_open hm
       refine RK hnt (nn 7 (pT :: nn 2 (pT :: nn 6 (pT :: nn 6 (pT :: nn 5 (.call 101 [] true (pI r7) [] [] :: .no :: pT :: .no :: [])))))) [(4, pB (decide (r7 ≥ 0)))] [] (an4 h2 (an2 h3 (an6 h4 (an6 h5 (an5 h6 (an (At_forestSpec p0.tree p1.group r7 hr7) (an2 h6 trivial))))))) ?_
       exact joinDone (decide (r7 ≥ 0)) hm .refl
      ·replace hm := if_f h6 hm
       refine RK hnt (nn 7 (pT :: nn 2 (pT :: nn 6 (pT :: nn 6 (pT :: .no :: sk 6 (pF :: .no :: [])))))) [(4, pB false)] [] (an4 h2 (an2 h3 (an6 h4 (an6 h5 (an h6 (an6 h6 trivial)))))) ?_
       exact joinDone false hm .refl
     ·replace hm := if_f h5 hm
      refine RK hnt (nn 7 (pT :: nn 2 (pT :: nn 6 (pT :: .no :: sk 5 (pF :: .no :: sk 6 (pF :: .no :: [])))))) [(4, pB false)] [] (an4 h2 (an2 h3 (an6 h4 (an6 h5 (an ff (an6 ff trivial)))))) ?_
      exact joinDone false hm .refl
    ·replace hm := if_f h4 hm
     refine RK hnt (nn 7 (pT :: nn 2 (pT :: .no :: sk 5 (pF :: .no :: sk 5 (pF :: .no :: sk 6 (pF :: .no :: [])))))) [(4, pB false)] [] (an4 h2 (an2 h3 (an6 h4 (an ff (an6 ff (an6 ff trivial)))))) ?_
     exact joinDone false hm .refl
   ·replace hm := if_f h3 hm
    refine RK hnt (nn 7 (pT :: .no :: .skip :: pF :: .no :: sk 5 (pF :: .no :: sk 5 (pF :: .no :: sk 6 (pF :: .no :: []))))) [(4, pB false)] [] (an4 h2 (an2 h3 (an ff (an6 ff (an6 ff (an6 ff trivial)))))) ?_
    exact joinDone false hm .refl
  ·replace hm := if_f h2 hm
   refine RK hnt (nn 4 (sk 3 (pF :: .no :: .skip :: pF :: .no :: sk 5 (pF :: .no :: sk 5 (pF :: .no :: sk 6 (pF :: .no :: [])))))) [(4, pB false)] [] (an4 h2 (an3 ff (an6 ff (an6 ff (an6 ff trivial))))) ?_
   exact joinDone false hm .refl

abbrev c51e1 (p0 : Hierarchy) (k1 : Nat) := (p0.tasks.getD k1 (default : Task))
theorem Check_memberSpec (p0 : Hierarchy) (RES : Bool) (hm : Check_member p0 = some RES) : Spec Tryz.prog 51 [.p (.agg (encHierarchy p0))] [] (pB RES) [] [] := by
 unfold Check_member at hm
 refine SO Tryz.func51 rfl rfl [(0, .p (.agg (encHierarchy p0)))] [] ?_
 intro cx hnt
 refine DW.seq (RK hnt (nn 2 []) [(1, rr 1008)] [(1008, bx (pm (encHierarchy p0)))] trivial ?_)
 refine DW.seq (DW.seq ?_)
 refine DW.join (ι := Bool) (fun (y1 : Bool) => mkSt [(1, rr 1008), (20, pB y1)] [(1008, bx (pm (encHierarchy p0)))]) (fun y1 => (Check_memberJ1 p0) y1 = some RES) ?_ ?_
 ·intro y1 hm
  unfold Check_memberJ1 at hm
  refine condM hm ?_ ?_
  ·intro h4 hm
   refine DW.seq (RK hnt (.no :: []) [(2, pB false)] [] trivial ?_)
   refine DW.ret ?_
   obtain rfl := Option.some.inj hm
   exact retK [] [] (pB false)
  ·intro h4 hm
   refine DW.skip ?_
   refine DW.seq (RD hnt (.no :: []) [20] [(3, pI 0)] [] [] trivial ?_)
   refine DW.seq (DW.seq (RD hnt (nn 4 []) [] [(22, .p (slTask p0.tasks)), (23, pI ((p0.tasks.length : Nat) : Int)), (24, pI 0)] [] [] trivial ?_))
   refine DW.block ?_
   obtain ⟨hc1, hm⟩ := guard_open hm
   refine DW.rangeO (fun (k1 : Nat) (s1 : Int) => mkSt [(1, rr 1008), (3, pI s1), (22, .p (slTask p0.tasks)), (23, pI ((p0.tasks.length : Nat) : Int)), (24, pI ((k1 : Nat) : Int))] [(1008, bx (pm (encHierarchy p0)))]) dTask hm Conv.eqK ?_
   intro k1 s1 n1 hk1 hs1 he1
   refine DW.seq (RD hnt (.no :: []) [] [(25, pB (decide (((k1 : Nat) : Int) < ((p0.tasks.length : Nat) : Int))))] [] [] trivial ?_)
   refine DW.seq (condK (decide (((k1 : Nat) : Int) < ((p0.tasks.length : Nat) : Int))) ?_ ?_)
   ·intro h15
    have hlt1 : k1 < p0.tasks.length := by have := of_decide_eq_true h15; omega
    have hm := hs1 hlt1
    unfold Check_memberL1 at hm
    refine DW.skip ?_
    refine DW.seq (DW.block ?_)
    refine DW.seq (RD hnt (nn 4 []) [25] [(5, rr 1040)] [] [(1040, bx (pm (encTask (c51e1 p0 k1))))] (an (nn0 k1) (an (ltc hlt1) trivial)) ?_)
    refine DW.seq (DW.seq ?_)
    refine DW.join (ι := Bool) (fun (y4 : Bool) => mkSt [(1, rr 1008), (5, rr 1040), (22, .p (slTask p0.tasks)), (23, pI ((p0.tasks.length : Nat) : Int)), (24, pI ((k1 : Nat) : Int)), (37, pB y4)] [(1008, bx (pm (encHierarchy p0))), (1040, bx (pm (encTask (c51e1 p0 k1))))]) (fun y4 => (Check_memberJ4 (c51e1 p0 k1) n1) y4 = some RES) ?_ ?_
    ·intro y4 hm
     unfold Check_memberJ4 at hm
     refine condM hm ?_ ?_
     ·intro h18 hm
      refine DW.seq (RK hnt (.no :: []) [(2, pB false)] [] trivial ?_)
      refine DW.ret ?_
      obtain rfl := Option.some.inj hm
      exact retK [] [] (pB false)
     ·intro h18 hm
      refine DW.skip ?_
      refine RD hnt (nn 3 []) [5, 37] [(3, pI (c51e1 p0 k1).id)] [1040] [] trivial ?_
      refine DW.done ?_
      show DW _ _ _ _ _
      refine RD hnt (nn 2 []) [] [(24, pI (w64 (((k1 : Nat) : Int) + 1)))] [] [] trivial ?_
      exact joinDone (c51e1 p0 k1).id ⟨hlt1, hm⟩ (Conv.tp [(24, pI (w64 (((k1 : Nat) : Int) + 1)))] [] (by kernel_rfl) (.cons rfl (.of_eq (congrArg pI (w64_succ hlt1 hc1))) .nil) .nil)
    ·rcases bt (decide ((c51e1 p0 k1).id ≤ s1)) with h16 | h16
     ·replace hm := if_t h16 hm
      refine RD hnt (nn 5 (sk 4 (pT :: []))) [3] [(37, pB true)] [] [] (an5 h16 trivial) ?_
      exact joinDone true hm Conv.eqK
     ·replace hm := if_f h16 hm
      obtain ⟨r17, hr17, hm⟩ := bind_open hm
      refine RD hnt (nn 7 (.call 109 [] true (pB r17) [] [] :: .no :: pF :: [])) [3] [(37, pB (!r17))] [] [] (an3 h16 (an (fine_memberSpec p0 (c51e1 p0 k1) r17 hr17) (an2 h16 trivial))) ?_
      exact joinDone (!r17) hm Conv.eqK
   ·intro h15
    have hge1 : ¬ k1 < p0.tasks.length := by have := of_decide_eq_false h15; omega
    have hm := he1 hge1
    unfold Check_memberD1 at hm
    refine DW.exit ?_
    refine joinQ_exit ?_
    refine KQ_exit ?_
    refine blockQ_exit ?_
    show DW _ _ _ _ _
    refine DW.seq (RK hnt (nn 5 []) [(2, pB (decide (p0.next > s1)))] [] trivial ?_)
    refine DW.ret ?_
    obtain rfl := Option.some.inj hm
    exact retK [] [] (pB (decide (p0.next > s1)))
 ·rcases bt (decide (((p0.tasks.length : Nat) : Int) > 128)) with h1 | h1
  ·replace hm := if_t h1 hm
   refine RD hnt (nn 5 (sk 3 (pT :: .no :: sk 4 (pT :: [])))) [] [(20, pB true)] [] [] (an4 h1 (an5 tt trivial)) ?_
   exact joinDone true hm Conv.eqK
  ·replace hm := if_f h1 hm
   rcases bt (decide (p0.next > 2147483648)) with h2 | h2
   ·replace hm := if_t h2 hm
    refine RD hnt (nn 8 (pF :: .no :: sk 4 (pT :: []))) [] [(20, pB true)] [] [] (an4 h1 (an5 h2 trivial)) ?_
    exact joinDone true hm Conv.eqK
   ·replace hm := if_f h2 hm
    obtain ⟨r3, hr3, hm⟩ := bind_open hm
    refine RD hnt (nn 8 (pF :: nn 3 (.call 108 [] true (pB r3) [] [] :: .no :: pF :: []))) [] [(20, pB (!r3))] [] [] (an4 h1 (an3 h2 (an (Check_treeSpec p0.tree r3 hr3) (an2 h2 trivial)))) ?_
    exact joinDone (!r3) hm Conv.eqK

theorem Clone_slices_NodeNnSpec (p0 : List Node) (RES : List Node) (hm : Clone_slices_Node p0 = some RES) : Spec Tryz.prog 145 [.p (.sl .nn 6 p0.length (elems encNode (default : Node) p0))] [] (ow 0 RES.length) [] [roNode RES] := by
 unfold Clone_slices_Node at hm
 refine SO Tryz.func145 rfl rfl [(0, .p (.sl .nn 6 p0.length (elems encNode (default : Node) p0)))] [] ?_
 intro cx hnt
 refine DW.seq (RD hnt (.no :: []) [] [] [] [] trivial ?_)
 refine DW.seq (DW.seq (RD hnt (nn 2 []) [] [(4, pB false)] [] [] trivial ?_))
 refine condF ff ?_
 refine DW.skip ?_
 obtain ⟨g1, hm⟩ := guard_open hm
 refine DW.seq (RN hnt (nn 4 []) [(2, ow 1040 p0.length)] [(1040, ob0 (roNode p0))] [(2, ow 1040 (0 + p0.length))] [(1040, .row 6 (0 + p0.length) (catF 0 (cut 6 []) (elNode p0)))] (an (by omega : (0 + p0.length) * 56 ≤ 140737488355328) trivial) (by kernel_rfl) (.cons rfl (MLe.ownLen (enc := encNode) (d := dNode) (f := (catF 0 (cut 6 []) (elNode p0))) (RowIs.cat RowIs.nil RowIs.elems)) .nil) (.cons rfl (BLe.typed (RowIs.cat RowIs.nil RowIs.elems)) .nil) ?_)
 refine DW.ret ?_
 obtain rfl := Option.some.inj hm
 exact retK [roNode p0] [1040] (ow 0 p0.length)

theorem Clone_slices_NodeNilSpec (p0 : List Node) (RES : List Node) (hm : Clone_slices_NodeNil p0 = some RES) : Spec Tryz.prog 145 [.p (.sl .nil 6 0 (elems encNode (default : Node) p0))] [] (ow 0 RES.length) [] [roNode RES] := by
 unfold Clone_slices_NodeNil at hm
 refine SO Tryz.func145 rfl rfl [(0, .p (.sl .nil 6 0 (elems encNode (default : Node) p0)))] [] ?_
 intro cx hnt
 refine DW.seq (RD hnt (.no :: []) [] [] [] [] trivial ?_)
 refine DW.seq (DW.seq (RD hnt (nn 2 []) [] [(4, pB true)] [] [] trivial ?_))
 refine condT tt ?_
 refine DW.seq (RK hnt (.no :: []) [(2, .p (.sl .nil 0 0 (fun _ => [])))] [] trivial ?_)
 refine DW.conv (τ := mkSt [(2, ow 100000 0)] [(100000, ob0 (roNode []))]) (Conv.trans (τ := mkSt [(2, ow 100000 0)] ((100000, ⟨0, .row 6 0 (elems encNode dNode [])⟩) :: [])) (Conv.adopt 100000 6 (elems encNode dNode []) rfl rfl (.cons (.one (.nil _ _)) (.rfl _)) (.rfl _)) Conv.t0) ?_
 refine DW.ret ?_
 obtain rfl := Option.some.inj hm
 exact retK [roNode []] [100000] (ow 0 0)

theorem Clone_slices_NodeSpec (p0 : List Node) (RES : List Node) (hm : Clone_slices_Node p0 = some RES) : Spec Tryz.prog 145 [.p (slNode p0)] [] (ow 0 RES.length) [] [roNode RES] :=
  Spec.unk (fun h => Clone_slices_NodeNilSpec p0 RES (by have e : p0 = [] := List.eq_nil_of_length_eq_zero h; subst e; simpa [Clone_slices_Node, Clone_slices_NodeNil] using hm)) (Clone_slices_NodeNnSpec p0 RES hm)

theorem Clone_slices_TaskNnSpec (p0 : List Task) (RES : List Task) (hm : Clone_slices_Task p0 = some RES) : Spec Tryz.prog 146 [.p (.sl .nn 4 p0.length (elems encTask (default : Task) p0))] [] (ow 0 RES.length) [] [roTask RES] := by
 unfold Clone_slices_Task at hm
 refine SO Tryz.func146 rfl rfl [(0, .p (.sl .nn 4 p0.length (elems encTask (default : Task) p0)))] [] ?_
 intro cx hnt
 refine DW.seq (RD hnt (.no :: []) [] [] [] [] trivial ?_)
 refine DW.seq (DW.seq (RD hnt (nn 2 []) [] [(4, pB false)] [] [] trivial ?_))
 refine condF ff ?_
 refine DW.skip ?_
 obtain ⟨g1, hm⟩ := guard_open hm
 refine DW.seq (RN hnt (nn 4 []) [(2, ow 1040 p0.length)] [(1040, ob0 (roTask p0))] [(2, ow 1040 (0 + p0.length))] [(1040, .row 4 (0 + p0.length) (catF 0 (cut 4 []) (elTask p0)))] (an (by omega : (0 + p0.length) * 32 ≤ 140737488355328) trivial) (by kernel_rfl) (.cons rfl (MLe.ownLen (enc := encTask) (d := dTask) (f := (catF 0 (cut 4 []) (elTask p0))) (RowIs.cat RowIs.nil RowIs.elems)) .nil) (.cons rfl (BLe.typed (RowIs.cat RowIs.nil RowIs.elems)) .nil) ?_)
 refine DW.ret ?_
 obtain rfl := Option.some.inj hm
 exact retK [roTask p0] [1040] (ow 0 p0.length)

theorem Clone_slices_TaskNilSpec (p0 : List Task) (RES : List Task) (hm : Clone_slices_TaskNil p0 = some RES) : Spec Tryz.prog 146 [.p (.sl .nil 4 0 (elems encTask (default : Task) p0))] [] (ow 0 RES.length) [] [roTask RES] := by
 unfold Clone_slices_TaskNil at hm
 refine SO Tryz.func146 rfl rfl [(0, .p (.sl .nil 4 0 (elems encTask (default : Task) p0)))] [] ?_
 intro cx hnt
 refine DW.seq (RD hnt (.no :: []) [] [] [] [] trivial ?_)
 refine DW.seq (DW.seq (RD hnt (nn 2 []) [] [(4, pB true)] [] [] trivial ?_))
 refine condT tt ?_
 refine DW.seq (RK hnt (.no :: []) [(2, .p (.sl .nil 0 0 (fun _ => [])))] [] trivial ?_)
 refine DW.conv (τ := mkSt [(2, ow 100000 0)] [(100000, ob0 (roTask []))]) (Conv.trans (τ := mkSt [(2, ow 100000 0)] ((100000, ⟨0, .row 4 0 (elems encTask dTask [])⟩) :: [])) (Conv.adopt 100000 4 (elems encTask dTask []) rfl rfl (.cons (.one (.nil _ _)) (.rfl _)) (.rfl _)) Conv.t0) ?_
 refine DW.ret ?_
 obtain rfl := Option.some.inj hm
 exact retK [roTask []] [100000] (ow 0 0)

theorem Clone_slices_TaskSpec (p0 : List Task) (RES : List Task) (hm : Clone_slices_Task p0 = some RES) : Spec Tryz.prog 146 [.p (slTask p0)] [] (ow 0 RES.length) [] [roTask RES] :=
  Spec.unk (fun h => Clone_slices_TaskNilSpec p0 RES (by have e : p0 = [] := List.eq_nil_of_length_eq_zero h; subst e; simpa [Clone_slices_Task, Clone_slices_TaskNil] using hm)) (Clone_slices_TaskNnSpec p0 RES hm)

theorem Copy_crewSpec (p0 : Hierarchy) (RES : Hierarchy) (hm : Copy_crew p0 = some RES) : Spec Tryz.prog 96 [.p (.agg (encHierarchy p0))] [] (.agg [ow 0 RES.tree.nodes.length, pI RES.tree.next, ow 1 RES.tasks.length, pI RES.next]) [] [roNode RES.tree.nodes, roTask RES.tasks] := by
 unfold Copy_crew at hm
 refine SO Tryz.func96 rfl rfl [(0, .p (.agg (encHierarchy p0)))] [] ?_
 intro cx hnt
 refine DW.seq (RK hnt (nn 2 []) [(1, rr 1008), (2, rr 1016)] [(1008, bx (pm (encHierarchy p0))), (1016, bx [.p (.sl .nil 0 0 (fun _ => [])), pI 0, .p (.sl .nil 0 0 (fun _ => [])), pI 0])] trivial ?_)
 obtain ⟨r1, hr1, hm⟩ := bind_open hm
 obtain ⟨r2, hr2, hm⟩ := bind_open hm
 refine DW.seq (RK hnt (nn 3 (.call 145 [] true (ow 0 r1.length) [] [roNode r1] :: nn 6 (.call 146 [] true (ow 0 r2.length) [] [roTask r2] :: nn 4 []))) [(2, rr 1016)] [(1016, bx [ow 1048 r1.length, pI p0.tree.next, ow 1104 r2.length, pI p0.next]), (1048, ob0 (roNode r1)), (1104, ob0 (roTask r2))] (an (Clone_slices_NodeSpec p0.tree.nodes r1 hr1) (an (Clone_slices_TaskSpec p0.tasks r2 hr2) trivial)) ?_)
 refine DW.ret ?_
 obtain rfl := Option.some.inj hm
 exact retK [roNode r1, roTask r2] [1048, 1104] (.agg [ow 0 r1.length, pI p0.tree.next, ow 1 r2.length, pI p0.next])

abbrev c102e1 : Nat × Obj := (1032, bx [.p (.sl .nil 0 0 (fun _ => [])), pI 0, .p (.sl .nil 0 0 (fun _ => [])), pI 0])
abbrev c102e2 (r3 : Hierarchy) : Nat × Obj := (1056, bx [ow 1152 r3.tree.nodes.length, pI r3.tree.next, ow 1153 r3.tasks.length, pI r3.next])
abbrev c102e3 : Nat × Obj := (1032, bx [ow 100000 0, pI 0, .p (.sl .nil 0 0 (fun _ => [])), pI 0])
theorem add_memberSpec (p0 : Hierarchy) (p1 : Task) (RES : Hierarchy × Int × Int) (hm : add_member p0 p1 = some RES) : Spec Tryz.prog 102 [.p (.agg (encHierarchy p0)), .p (.agg (encTask p1))] [] (.tup [.agg [ow 0 RES.1.tree.nodes.length, pI RES.1.tree.next, ow 1 RES.1.tasks.length, pI RES.1.next], pI RES.2.1, pI RES.2.2]) [] [roNode RES.1.tree.nodes, roTask RES.1.tasks] := by
 unfold add_member at hm
 refine SO Tryz.func102 rfl rfl [(0, .p (.agg (encHierarchy p0))), (1, .p (.agg (encTask p1)))] [] ?_
 intro cx hnt
 refine DW.seq (RK hnt (nn 5 []) [(2, rr 1016), (3, rr 1024), (4, rr 1032)] [(1016, bx (pm (encHierarchy p0))), (1024, bx (pm (encTask p1))), (c102e1)] trivial ?_)
 refine DW.seq (DW.seq (DW.regJ (sl2 := [(2, rr 1016), (3, rr 1024), (4, rr 1032), (16, pB ((decide (((p0.tasks.length : Nat) : Int) ≥ 128)) || (decide (p0.next > 2147483647))))]) (ob2 := [(1016, bx (pm (encHierarchy p0))), (1024, bx (pm (encTask p1))), (c102e1)]) ?_ ?_))
 ·rcases bt (decide (((p0.tasks.length : Nat) : Int) ≥ 128)) with h1 | h1
  ·exact RT hnt (nn 5 (sk 3 (pT :: []))) [(16, pB true)] (an4 h1 trivial) (by kernel_rfl) (.cons rfl (.of_eq (by rw [h1]; try rfl)) .nil)
  ·exact RT hnt (nn 8 (pF :: [])) [(16, pB (decide (p0.next > 2147483647)))] (an4 h1 trivial) (by kernel_rfl) (.cons rfl (.of_eq (by rw [h1]; try rfl)) .nil)
 ·refine condM hm ?_ ?_
  ·intro h2 hm
   refine DW.seq (RD hnt (nn 4 []) [2, 3, 16] [(5, pI 0), (6, pI 7)] [1016, 1024] [] trivial ?_)
   refine DW.conv (τ := mkSt [(4, rr 1032), (5, pI 0), (6, pI 7)] [(1032, bx [ow 100000 0, pI 0, ow 100001 0, pI 0]), (100000, ob0 (roNode [])), (100001, ob0 (roTask []))]) (Conv.trans (τ := mkSt [(4, rr 1032), (5, pI 0), (6, pI 7)] [(c102e1)]) Conv.eqK (Conv.trans (τ := mkSt [(4, rr 1032), (5, pI 0), (6, pI 7)] ((100000, ⟨0, .row 6 0 (elems encNode dNode [])⟩) :: [(c102e3)])) (Conv.adopt 100000 6 (elems encNode dNode []) rfl rfl (.rfl _) (.box (.cons (.nil _ _) (.cons (.rfl _) (.cons (.rfl _) (.cons (.rfl _) (.rfl _))))) (.rfl _))) (Conv.trans (τ := mkSt [(4, rr 1032), (5, pI 0), (6, pI 7)] [(c102e3), (100000, ob0 (roNode []))]) Conv.t0 (Conv.trans (τ := mkSt [(4, rr 1032), (5, pI 0), (6, pI 7)] ((100001, ⟨0, .row 4 0 (elems encTask dTask [])⟩) :: [(1032, bx [ow 100000 0, pI 0, ow 100001 0, pI 0]), (100000, ob0 (roNode []))])) (Conv.adopt 100001 4 (elems encTask dTask []) rfl rfl (.rfl _) (.box (.cons (.rfl _) (.cons (.rfl _) (.cons (.nil _ _) (.cons (.rfl _) (.rfl _))))) (.keep (.rfl _)))) Conv.t0)))) ?_
   refine DW.ret ?_
   obtain rfl := Option.some.inj hm
   exact retK [roNode [], roTask []] [100000, 100001] (.tup [.agg [ow 0 0, pI 0, ow 1 0, pI 0], pI 0, pI 7])
  ·intro h2 hm
   refine DW.skip ?_
   obtain ⟨r3, hr3, hm⟩ := bind_open hm
   refine DW.seq (RD hnt (.no :: .call 96 [] true (.agg [ow 0 r3.tree.nodes.length, pI r3.tree.next, ow 1 r3.tasks.length, pI r3.next]) [] [roNode r3.tree.nodes, roTask r3.tasks] :: nn 2 []) [16] [(7, rr 1056)] [] [(c102e2 r3), (1152, ob0 (roNode r3.tree.nodes)), (1153, ob0 (roTask r3.tasks))] (an (Copy_crewSpec p0 r3 hr3) trivial) ?_)
   refine DW.seq (RD hnt (nn 4 []) [2] [] [1016] [(1024, bx [pI p0.next, pI p1.process, pI p1.group, pI p1.user])] trivial ?_)
   refine DW.seq (DW.seq (RD hnt (nn 3 []) [] [(25, pB (p1.process == 0))] [] [] trivial ?_))
   refine DW.join (ι := Task) (fun (y1 : Task) => mkSt [(3, rr 1024), (4, rr 1032), (7, rr 1056)] [(1024, bx (pm (encTask y1))), (c102e1), (c102e2 r3), (1152, ob0 (roNode r3.tree.nodes)), (1153, ob0 (roTask r3.tasks))]) (fun y1 => (add_memberJ1 r3) y1 = some RES) ?_ ?_
   ·intro y1 hm
    unfold add_memberJ1 at hm
    obtain ⟨g5, hm⟩ := guard_open hm
    refine DW.seq (RN hnt (nn 7 []) [(3, rr 1024), (4, rr 1032), (7, rr 1056)] [(1024, bx (pm (encTask y1))), (c102e1), (1056, bx [ow 1152 r3.tree.nodes.length, pI r3.tree.next, ow 1153 (r3.tasks ++ [y1]).length, pI r3.next]), (1152, ob0 (roNode r3.tree.nodes)), (1153, ob0 (roTask (r3.tasks ++ [y1])))] [] [(1056, .box [ow 1152 r3.tree.nodes.length, pI r3.tree.next, ow 1153 (r3.tasks.length + 1), pI r3.next]), (1153, .row 4 (r3.tasks.length + 1) (catF r3.tasks.length (elTask r3.tasks) (cut 4 [vi y1.id, vi y1.process, vi y1.group, vi y1.user])))] (an (by omega : (r3.tasks.length + 1) * 32 ≤ 140737488355328) trivial) (by kernel_rfl) .nil (.cons rfl (.box (.cons .rfl (.cons .rfl (.cons (MLe.ownLen (enc := encTask) (d := dTask) (f := (catF r3.tasks.length (elTask r3.tasks) (cut 4 [vi y1.id, vi y1.process, vi y1.group, vi y1.user]))) (RowIs.cat RowIs.elems (RowIs.lit (enc := encTask) (d := dTask) (n := 1) (f := (cut 4 [vi y1.id, vi y1.process, vi y1.group, vi y1.user])) [y1] rfl (fun | 0, _ => rfl | n + 1, h => absurd h (by omega))))) (.cons .rfl .nil))))) (.cons rfl (BLe.typed (RowIs.cat RowIs.elems (RowIs.lit (enc := encTask) (d := dTask) (n := 1) (f := (cut 4 [vi y1.id, vi y1.process, vi y1.group, vi y1.user])) [y1] rfl (fun | 0, _ => rfl | n + 1, h => absurd h (by omega))))) .nil)) ?_)
    refine DW.seq (RD hnt (nn 5 []) [] [] [] [(1056, bx [ow 1152 r3.tree.nodes.length, pI r3.tree.next, ow 1153 (r3.tasks ++ [y1]).length, pI (w64 (r3.next + 1))])] trivial ?_)
    refine DW.seq (RD hnt (nn 6 []) [3, 7] [(5, pI y1.id), (6, pI 0)] [1024, 1056] [(1032, bx [ow 1152 r3.tree.nodes.length, pI r3.tree.next, ow 1153 (r3.tasks ++ [y1]).length, pI (w64 (r3.next + 1))])] trivial ?_)
    refine DW.ret ?_
    obtain rfl := Option.some.inj hm
    exact retK [roNode r3.tree.nodes, roTask (r3.tasks ++ [y1])] [1152, 1153] (.tup [.agg [ow 0 r3.tree.nodes.length, pI r3.tree.next, ow 1 (r3.tasks ++ [y1]).length, pI (w64 (r3.next + 1))], pI y1.id, pI 0])
   ·refine condM hm ?_ ?_
    ·intro h4 hm
     refine RD hnt (nn 4 []) [25] [] [] [(1024, bx [pI p0.next, pI p0.next, pI p1.group, pI p1.user])] trivial ?_
     exact joinDone ({ id := p0.next, process := p0.next, group := p1.group, user := p1.user } : Task) hm Conv.eqK
    ·intro h4 hm
     refine DW.skip ?_
     exact joinDone ({ id := p0.next, process := p1.process, group := p1.group, user := p1.user } : Task) hm Conv.t0

abbrev c45e1 : Nat × Obj := (1048, bx [.p (.sl .nil 0 0 (fun _ => [])), pI 0, .p (.sl .nil 0 0 (fun _ => [])), pI 0])
abbrev c45e2 : Nat × Obj := (1048, bx [ow 100000 0, pI 0, .p (.sl .nil 0 0 (fun _ => [])), pI 0])
abbrev c45e3 : Nat × Obj := (1048, bx [ow 100000 0, pI 0, ow 100001 0, pI 0])
theorem Spawn_memberSpec (p0 : Hierarchy) (p1 : Int) (p2 : Int) (RES : Hierarchy × Int × Int) (hm : Spawn_member p0 p1 p2 = some RES) : Spec Tryz.prog 45 [.p (.agg (encHierarchy p0)), pI p1, pI p2] [] (.tup [.agg [ow 0 RES.1.tree.nodes.length, pI RES.1.tree.next, ow 1 RES.1.tasks.length, pI RES.1.next], pI RES.2.1, pI RES.2.2]) [] [roNode RES.1.tree.nodes, roTask RES.1.tasks] := by
 unfold Spawn_member at hm
 refine SO Tryz.func45 rfl rfl [(0, .p (.agg (encHierarchy p0))), (1, pI p1), (2, pI p2)] [] ?_
 intro cx hnt
 refine DW.seq (RD hnt (nn 4 []) [0] [(3, rr 1024), (6, rr 1048)] [] [(1024, bx (pm (encHierarchy p0))), (c45e1)] trivial ?_)
 obtain ⟨r1, hr1, hm⟩ := bind_open hm
 refine DW.seq (DW.seq ?_)
 refine DW.join (ι := Bool) (fun (y1 : Bool) => mkSt [(1, pI p1), (2, pI p2), (3, rr 1024), (6, rr 1048), (19, pB y1)] [(1024, bx (pm (encHierarchy p0))), (c45e1)]) (fun y1 => (Spawn_memberJ1 p0 p1 p2) y1 = some RES) ?_ ?_
 ·intro y1 hm
  unfold Spawn_memberJ1 at hm
  refine condM hm ?_ ?_
  ·intro h4 hm
   refine DW.seq (RD hnt (nn 4 []) [1, 2, 3, 19] [(7, pI 0), (8, pI 1)] [1024] [] trivial ?_)
   refine DW.conv (τ := mkSt [(6, rr 1048), (7, pI 0), (8, pI 1)] [(c45e3), (100000, ob0 (roNode [])), (100001, ob0 (roTask []))]) (Conv.trans (τ := mkSt [(6, rr 1048), (7, pI 0), (8, pI 1)] [(c45e1)]) Conv.eqK (Conv.trans (τ := mkSt [(6, rr 1048), (7, pI 0), (8, pI 1)] ((100000, ⟨0, .row 6 0 (elems encNode dNode [])⟩) :: [(c45e2)])) (Conv.adopt 100000 6 (elems encNode dNode []) rfl rfl (.rfl _) (.box (.cons (.nil _ _) (.cons (.rfl _) (.cons (.rfl _) (.cons (.rfl _) (.rfl _))))) (.rfl _))) (Conv.trans (τ := mkSt [(6, rr 1048), (7, pI 0), (8, pI 1)] [(c45e2), (100000, ob0 (roNode []))]) Conv.t0 (Conv.trans (τ := mkSt [(6, rr 1048), (7, pI 0), (8, pI 1)] ((100001, ⟨0, .row 4 0 (elems encTask dTask [])⟩) :: [(c45e3), (100000, ob0 (roNode []))])) (Conv.adopt 100001 4 (elems encTask dTask []) rfl rfl (.rfl _) (.box (.cons (.rfl _) (.cons (.rfl _) (.cons (.nil _ _) (.cons (.rfl _) (.rfl _))))) (.keep (.rfl _)))) Conv.t0)))) ?_
   refine DW.ret ?_
   obtain rfl := Option.some.inj hm
   exact retK [roNode [], roTask []] [100000, 100001] (.tup [.agg [ow 0 0, pI 0, ow 1 0, pI 0], pI 0, pI 1])
  ·intro h4 hm
   refine DW.skip ?_
   obtain ⟨r5, hr5, hm⟩ := bind_open hm
   refine DW.seq (DW.seq (RD hnt (nn 3 (.call 101 [] true (pI r5) [] [] :: .no :: [])) [19] [(25, pB (decide (r5 < 0)))] [] [] (an (At_forestSpec p0.tree p1 r5 hr5) trivial) ?_))
   refine condM hm ?_ ?_
   ·intro h6 hm
    refine DW.seq (RD hnt (nn 4 []) [1, 2, 3, 25] [(7, pI 0), (8, pI 4)] [1024] [] trivial ?_)
    refine DW.conv (τ := mkSt [(6, rr 1048), (7, pI 0), (8, pI 4)] [(c45e3), (100000, ob0 (roNode [])), (100001, ob0 (roTask []))]) (Conv.trans (τ := mkSt [(6, rr 1048), (7, pI 0), (8, pI 4)] [(c45e1)]) Conv.eqK (Conv.trans (τ := mkSt [(6, rr 1048), (7, pI 0), (8, pI 4)] ((100000, ⟨0, .row 6 0 (elems encNode dNode [])⟩) :: [(c45e2)])) (Conv.adopt 100000 6 (elems encNode dNode []) rfl rfl (.rfl _) (.box (.cons (.nil _ _) (.cons (.rfl _) (.cons (.rfl _) (.cons (.rfl _) (.rfl _))))) (.rfl _))) (Conv.trans (τ := mkSt [(6, rr 1048), (7, pI 0), (8, pI 4)] [(c45e2), (100000, ob0 (roNode []))]) Conv.t0 (Conv.trans (τ := mkSt [(6, rr 1048), (7, pI 0), (8, pI 4)] ((100001, ⟨0, .row 4 0 (elems encTask dTask [])⟩) :: [(c45e3), (100000, ob0 (roNode []))])) (Conv.adopt 100001 4 (elems encTask dTask []) rfl rfl (.rfl _) (.box (.cons (.rfl _) (.cons (.rfl _) (.cons (.nil _ _) (.cons (.rfl _) (.rfl _))))) (.keep (.rfl _)))) Conv.t0)))) ?_
    refine DW.ret ?_
    obtain rfl := Option.some.inj hm
    exact retK [roNode [], roTask []] [100000, 100001] (.tup [.agg [ow 0 0, pI 0, ow 1 0, pI 0], pI 0, pI 4])
   ·intro h6 hm
    refine DW.skip ?_
    obtain ⟨r7, hr7, hm⟩ := bind_open hm
    refine DW.seq (RK hnt (nn 4 (.call 102 [] true (.tup [.agg [ow 0 r7.1.tree.nodes.length, pI r7.1.tree.next, ow 1 r7.1.tasks.length, pI r7.1.next], pI r7.2.1, pI r7.2.2]) [] [roNode r7.1.tree.nodes, roTask r7.1.tasks] :: nn 6 [])) [(6, rr 1048), (7, pI r7.2.1), (8, pI r7.2.2)] [(1048, bx [ow 1248 r7.1.tree.nodes.length, pI r7.1.tree.next, ow 1249 r7.1.tasks.length, pI r7.1.next]), (1248, ob0 (roNode r7.1.tree.nodes)), (1249, ob0 (roTask r7.1.tasks))] (an (add_memberSpec p0 ({ id := 0, process := 0, group := p1, user := p2 } : Task) r7 hr7) trivial) ?_)
    refine DW.ret ?_
    obtain rfl := Option.some.inj hm
    exact retK [roNode r7.1.tree.nodes, roTask r7.1.tasks] [1248, 1249] (.tup [.agg [ow 0 r7.1.tree.nodes.length, pI r7.1.tree.next, ow 1 r7.1.tasks.length, pI r7.1.next], pI r7.2.1, pI r7.2.2])
 ·rcases bt (!r1) with h2 | h2
  ·replace hm := if_t h2 hm
   refine RD hnt (.no :: .call 51 [] true (pB r1) [] [] :: nn 2 (sk 2 (pT :: .no :: sk 2 (pT :: [])))) [] [(19, pB true)] [] [] (an (Check_memberSpec p0 r1 hr1) (an3 h2 (an3 tt trivial))) ?_
   exact joinDone true hm Conv.eqK
  ·replace hm := if_f h2 hm
   rcases bt (decide (p2 < 0)) with h3 | h3
   ·replace hm := if_t h3 hm
    refine RD hnt (.no :: .call 51 [] true (pB r1) [] [] :: nn 4 (pF :: .no :: sk 2 (pT :: []))) [] [(19, pB true)] [] [] (an (Check_memberSpec p0 r1 hr1) (an3 h2 (an3 h3 trivial))) ?_
    exact joinDone true hm Conv.eqK
   ·replace hm := if_f h3 hm
    refine RD hnt (.no :: .call 51 [] true (pB r1) [] [] :: nn 4 (pF :: nn 3 (pF :: []))) [] [(19, pB (decide (p2 > 1048576)))] [] [] (an (Check_memberSpec p0 r1 hr1) (an3 h2 (an3 h3 trivial))) ?_
    exact joinDone (decide (p2 > 1048576)) hm Conv.eqK

abbrev c49e1 : Nat × Obj := (1032, bx [ow 100000 0, pI 0, .p (.sl .nil 0 0 (fun _ => [])), pI 0])
abbrev c49e2 : Nat × Obj := (1032, bx [.p (.sl .nil 0 0 (fun _ => [])), pI 0, .p (.sl .nil 0 0 (fun _ => [])), pI 0])
abbrev c49e3 : Nat × Obj := (1032, bx [ow 100000 0, pI 0, ow 100001 0, pI 0])
theorem Clone_memberSpec (p0 : Hierarchy) (p1 : Int) (RES : Hierarchy × Int × Int) (hm : Clone_member p0 p1 = some RES) : Spec Tryz.prog 49 [.p (.agg (encHierarchy p0)), pI p1] [] (.tup [.agg [ow 0 RES.1.tree.nodes.length, pI RES.1.tree.next, ow 1 RES.1.tasks.length, pI RES.1.next], pI RES.2.1, pI RES.2.2]) [] [roNode RES.1.tree.nodes, roTask RES.1.tasks] := by
 unfold Clone_member at hm
 refine SO Tryz.func49 rfl rfl [(0, .p (.agg (encHierarchy p0))), (1, pI p1)] [] ?_
 intro cx hnt
 refine DW.seq (RK hnt (nn 4 []) [(1, pI p1), (2, rr 1016), (4, rr 1032)] [(1016, bx (pm (encHierarchy p0))), (c49e2)] trivial ?_)
 obtain ⟨r1, hr1, hm⟩ := bind_open hm
 refine DW.seq (DW.seq (RD hnt (.no :: .call 51 [] true (pB r1) [] [] :: .no :: []) [] [(11, pB (!r1))] [] [] (an (Check_memberSpec p0 r1 hr1) trivial) ?_))
 refine condM hm ?_ ?_
 ·intro h2 hm
  refine DW.seq (RD hnt (nn 4 []) [1, 2, 11] [(5, pI 0), (6, pI 1)] [1016] [] trivial ?_)
  refine DW.conv (τ := mkSt [(4, rr 1032), (5, pI 0), (6, pI 1)] [(c49e3), (100000, ob0 (roNode [])), (100001, ob0 (roTask []))]) (Conv.trans (τ := mkSt [(4, rr 1032), (5, pI 0), (6, pI 1)] [(c49e2)]) Conv.eqK (Conv.trans (τ := mkSt [(4, rr 1032), (5, pI 0), (6, pI 1)] ((100000, ⟨0, .row 6 0 (elems encNode dNode [])⟩) :: [(c49e1)])) (Conv.adopt 100000 6 (elems encNode dNode []) rfl rfl (.rfl _) (.box (.cons (.nil _ _) (.cons (.rfl _) (.cons (.rfl _) (.cons (.rfl _) (.rfl _))))) (.rfl _))) (Conv.trans (τ := mkSt [(4, rr 1032), (5, pI 0), (6, pI 1)] [(c49e1), (100000, ob0 (roNode []))]) Conv.t0 (Conv.trans (τ := mkSt [(4, rr 1032), (5, pI 0), (6, pI 1)] ((100001, ⟨0, .row 4 0 (elems encTask dTask [])⟩) :: [(c49e3), (100000, ob0 (roNode []))])) (Conv.adopt 100001 4 (elems encTask dTask []) rfl rfl (.rfl _) (.box (.cons (.rfl _) (.cons (.rfl _) (.cons (.nil _ _) (.cons (.rfl _) (.rfl _))))) (.keep (.rfl _)))) Conv.t0)))) ?_
  refine DW.ret ?_
  obtain rfl := Option.some.inj hm
  exact retK [roNode [], roTask []] [100000, 100001] (.tup [.agg [ow 0 0, pI 0, ow 1 0, pI 0], pI 0, pI 1])
 ·intro h2 hm
  refine DW.skip ?_
  obtain ⟨r3, hr3, hm⟩ := bind_open hm
  refine DW.seq (RD hnt (nn 2 (.call 104 [] true (.p (.tup [.agg (encTask r3.1), vb r3.2])) [] [] :: nn 6 [])) [1, 11] [(7, rr 1056), (8, pB r3.2)] [] [(1056, bx (pm (encTask r3.1)))] (an (Find_crewSpec p0 p1 r3 hr3) trivial) ?_)
  refine DW.seq (DW.seq (RD hnt (nn 2 []) [8] [(20, pB (!r3.2))] [] [] trivial ?_))
  refine condM hm ?_ ?_
  ·intro h4 hm
   refine DW.seq (RD hnt (nn 4 []) [2, 7, 20] [(5, pI 0), (6, pI 4)] [1016, 1056] [] trivial ?_)
   refine DW.conv (τ := mkSt [(4, rr 1032), (5, pI 0), (6, pI 4)] [(c49e3), (100000, ob0 (roNode [])), (100001, ob0 (roTask []))]) (Conv.trans (τ := mkSt [(4, rr 1032), (5, pI 0), (6, pI 4)] [(c49e2)]) Conv.eqK (Conv.trans (τ := mkSt [(4, rr 1032), (5, pI 0), (6, pI 4)] ((100000, ⟨0, .row 6 0 (elems encNode dNode [])⟩) :: [(c49e1)])) (Conv.adopt 100000 6 (elems encNode dNode []) rfl rfl (.rfl _) (.box (.cons (.nil _ _) (.cons (.rfl _) (.cons (.rfl _) (.cons (.rfl _) (.rfl _))))) (.rfl _))) (Conv.trans (τ := mkSt [(4, rr 1032), (5, pI 0), (6, pI 4)] [(c49e1), (100000, ob0 (roNode []))]) Conv.t0 (Conv.trans (τ := mkSt [(4, rr 1032), (5, pI 0), (6, pI 4)] ((100001, ⟨0, .row 4 0 (elems encTask dTask [])⟩) :: [(c49e3), (100000, ob0 (roNode []))])) (Conv.adopt 100001 4 (elems encTask dTask []) rfl rfl (.rfl _) (.box (.cons (.rfl _) (.cons (.rfl _) (.cons (.nil _ _) (.cons (.rfl _) (.rfl _))))) (.keep (.rfl _)))) Conv.t0)))) ?_
   refine DW.ret ?_
   obtain rfl := Option.some.inj hm
   exact retK [roNode [], roTask []] [100000, 100001] (.tup [.agg [ow 0 0, pI 0, ow 1 0, pI 0], pI 0, pI 4])
  ·intro h4 hm
   refine DW.skip ?_
   obtain ⟨r5, hr5, hm⟩ := bind_open hm
   refine DW.seq (RK hnt (nn 2 (.call 102 [] true (.tup [.agg [ow 0 r5.1.tree.nodes.length, pI r5.1.tree.next, ow 1 r5.1.tasks.length, pI r5.1.next], pI r5.2.1, pI r5.2.2]) [] [roNode r5.1.tree.nodes, roTask r5.1.tasks] :: nn 6 [])) [(4, rr 1032), (5, pI r5.2.1), (6, pI r5.2.2)] [(1032, bx [ow 1192 r5.1.tree.nodes.length, pI r5.1.tree.next, ow 1193 r5.1.tasks.length, pI r5.1.next]), (1192, ob0 (roNode r5.1.tree.nodes)), (1193, ob0 (roTask r5.1.tasks))] (an (add_memberSpec p0 r3.1 r5 hr5) trivial) ?_)
   refine DW.ret ?_
   obtain rfl := Option.some.inj hm
   exact retK [roNode r5.1.tree.nodes, roTask r5.1.tasks] [1192, 1193] (.tup [.agg [ow 0 r5.1.tree.nodes.length, pI r5.1.tree.next, ow 1 r5.1.tasks.length, pI r5.1.next], pI r5.2.1, pI r5.2.2])

theorem ExitFa_memberSpec (p0 : Task) (p1 : Int) (RES : Bool) (hm : ExitFa_member p0 p1 = some RES) : Spec Tryz.prog 98 [.p (.agg (encTask p0)), rr 0] [.box [pI p1]] (pB RES) [.box [pI p1]] [] := by
 unfold ExitFa_member at hm
 refine SO Tryz.func98 rfl rfl [(0, .p (.agg (encTask p0))), (1, rr 0)] [(0, bx [pI p1])] ?_
 intro cx hnt
 refine DW.seq (RD hnt (nn 2 []) [0] [(2, rr 1016)] [] [(1016, bx (pm (encTask p0)))] trivial ?_)
 refine DW.seq (DW.regJ (sl2 := [(3, pB ((p0.id == p1) || (p0.process == p1)))]) (ob2 := [(0, bx [pI p1])]) ?_ ?_)
 ·rcases bt (p0.id == p1) with h1 | h1
  ·exact RT hnt (nn 5 (sk 4 (pT :: .no :: []))) [(3, pB true)] (an5 h1 trivial) (by kernel_rfl) (.cons rfl (.of_eq (by rw [h1]; try rfl)) .nil)
  ·exact RT hnt (nn 9 (pF :: .no :: [])) [(3, pB (p0.process == p1))] (an5 h1 trivial) (by kernel_rfl) (.cons rfl (.of_eq (by rw [h1]; try rfl)) .nil)
 ·refine DW.ret ?_
  obtain rfl := Option.some.inj hm
  exact retK [.box [pI p1]] [] (pB ((p0.id == p1) || (p0.process == p1)))

theorem IndexFunc_slices_TaskQExitFa_memberSpec (p0 : List Task) (p1c0 : Int) (RES : Int) (hm : IndexFunc_slices_TaskQExitFa_member p0 p1c0 = some RES) : Spec Tryz.prog 143 [.p (slTask p0), .fn 98 [rr 0]] [.box [pI p1c0]] (pI RES) [.box [pI p1c0]] [] := by
 unfold IndexFunc_slices_TaskQExitFa_member at hm
 refine SO Tryz.func143 rfl rfl [(0, .p (slTask p0)), (1, .fn 98 [rr 0])] [(0, bx [pI p1c0])] ?_
 intro cx hnt
 refine DW.seq (RD hnt (.no :: []) [] [] [] [] trivial ?_)
 refine DW.seq (DW.seq (RD hnt (nn 3 []) [] [(7, pI ((p0.length : Nat) : Int)), (8, pI 0)] [] [] trivial ?_))
 refine DW.block ?_
 obtain ⟨hc1, hm⟩ := guard_open hm
 refine DW.rangeO (fun (k1 : Nat) (s1 : Unit) => mkSt [(0, .p (slTask p0)), (1, .fn 98 [rr 0]), (7, pI ((p0.length : Nat) : Int)), (8, pI ((k1 : Nat) : Int))] [(0, bx [pI p1c0])]) dTask hm Conv.eqK ?_
 intro k1 s1 n1 hk1 hs1 he1
 refine DW.seq (RD hnt (.no :: []) [] [(9, pB (decide (((k1 : Nat) : Int) < ((p0.length : Nat) : Int))))] [] [] trivial ?_)
 refine DW.seq (condK (decide (((k1 : Nat) : Int) < ((p0.length : Nat) : Int))) ?_ ?_)
 ·intro h9
  have hlt1 : k1 < p0.length := by have := of_decide_eq_true h9; omega
  have hm := hs1 hlt1
  unfold IndexFunc_slices_TaskQExitFa_memberL1 at hm
  refine DW.skip ?_
  refine DW.seq (DW.block ?_)
  refine DW.seq (RD hnt (nn 2 []) [9] [(5, pI ((k1 : Nat) : Int))] [] [] trivial ?_)
  obtain ⟨r10, hr10, hm⟩ := bind_open hm
  refine DW.seq (RD hnt (nn 5 (.call 98 [0] true (pB r10) [.box [pI p1c0]] [] :: [])) [] [(16, pB r10)] [] [] (an (nn0 k1) (an (ltc hlt1) (an (ExitFa_memberSpec (p0.getD k1 (default : Task)) p1c0 r10 hr10) (an trivial trivial)))) ?_)
  refine condM hm ?_ ?_
  ·intro h11 hm
   refine DW.seq (RK hnt (nn 2 []) [(4, pI ((k1 : Nat) : Int))] [(0, bx [pI p1c0])] trivial ?_)
   refine DW.ret ?_
   obtain rfl := Option.some.inj hm
   exact retK [.box [pI p1c0]] [] (pI ((k1 : Nat) : Int))
  ·intro h11 hm
   refine DW.skip ?_
   refine DW.done ?_
   show DW _ _ _ _ _
   refine RD hnt (nn 2 []) [5, 16] [(8, pI (w64 (((k1 : Nat) : Int) + 1)))] [] [] trivial ?_
   exact joinDone () ⟨hlt1, hm⟩ (Conv.tp [(8, pI (w64 (((k1 : Nat) : Int) + 1)))] [] (by kernel_rfl) (.cons rfl (.of_eq (congrArg pI (w64_succ hlt1 hc1))) .nil) .nil)
 ·intro h9
  have hge1 : ¬ k1 < p0.length := by have := of_decide_eq_false h9; omega
  have hm := he1 hge1
  unfold IndexFunc_slices_TaskQExitFa_memberD1 at hm
  refine DW.exit ?_
  refine joinQ_exit ?_
  refine KQ_exit ?_
  refine blockQ_exit ?_
  show DW _ _ _ _ _
  refine DW.seq (RK hnt (.no :: []) [(4, pI (-1))] [(0, bx [pI p1c0])] trivial ?_)
  refine DW.ret ?_
  obtain rfl := Option.some.inj hm
  exact retK [.box [pI p1c0]] [] (pI (-1))

abbrev c97e1 (s1 : (List Task) × Int × Int) := (s1.1.getD (Int.toNat s1.2.2) dTask)
abbrev c97e2 := ({ id := 0, process := 0, group := 0, user := 0 } : Task)
abbrev c97e3 (s1 : (List Task) × Int × Int) := (fillL s1.1 (Int.toNat s1.2.1) (subN s1.1.length (Int.toNat s1.2.1)) (c97e2))
abbrev c97e4 (s1 : (List Task) × Int × Int) := (updF (elTask s1.1) (Int.toNat s1.2.1) [vi (c97e1 s1).id, vi (c97e1 s1).process, vi (c97e1 s1).group, vi (c97e1 s1).user])
theorem DeleteFunc_slices_TaskQExitFa_memberSpec (p0 : List Task) (p1c0 : Int) (RES : Nat × (List Task) × Int) (hm : DeleteFunc_slices_TaskQExitFa_member p0 p1c0 = some RES) : Spec Tryz.prog 97 [ow 0 p0.length, .fn 98 [rr 1]] [roTask p0, .box [pI p1c0]] (ow 0 RES.1) [roTask RES.2.1, .box [pI RES.2.2]] [] := by
 unfold DeleteFunc_slices_TaskQExitFa_member at hm
 refine SO Tryz.func97 rfl rfl [(0, ow 0 p0.length), (1, .fn 98 [rr 1])] [(0, ob0 (roTask p0)), (1, bx [pI p1c0])] ?_
 intro cx hnt
 refine DW.seq (RD hnt (.no :: []) [] [] [] [] trivial ?_)
 obtain ⟨r1, hr1, hm⟩ := bind_open hm
 refine DW.seq (RD hnt (nn 2 (.call 143 [1] true (pI r1) [.box [pI p1c0]] [] :: .no :: [])) [] [(5, pI r1)] [] [] (an (IndexFunc_slices_TaskQExitFa_memberSpec p0 p1c0 r1 hr1) (an trivial trivial)) ?_)
 refine DW.seq (DW.seq (RD hnt (nn 2 []) [] [(12, pB (r1 == (-1)))] [] [] trivial ?_))
 refine condM hm ?_ ?_
 ·intro h2 hm
  refine DW.seq (RD hnt (nn 2 []) [0, 1, 5, 12] [(4, ow 0 p0.length)] [] [] trivial ?_)
  refine DW.ret ?_
  obtain rfl := Option.some.inj hm
  exact retK [roTask p0, .box [pI p1c0]] [] (ow 0 p0.length)
 ·intro h2 hm
  refine DW.skip ?_
  refine DW.seq (DW.seq (RD hnt (nn 3 []) [12] [(6, pI (w64 (r1 + 1)))] [] [] trivial ?_))
  refine DW.block ?_
  refine DW.whileO (fun (s1 : (List Task) × Int × Int) => mkSt [(0, ow 0 s1.1.length), (1, .fn 98 [rr 1]), (5, pI s1.2.1), (6, pI s1.2.2)] [(0, ob0 (roTask s1.1)), (1, bx [pI p1c0])]) hm Conv.eqK ?_
  intro s1 n1 hm
  unfold DeleteFunc_slices_TaskQExitFa_memberL1 at hm
  refine DW.seq (DW.seq (RD hnt (nn 4 []) [] [(19, pB (decide (s1.2.2 < ((s1.1.length : Nat) : Int))))] [] [] trivial ?_))
  refine condM hm ?_ ?_
  ·intro h13 hm
   refine DW.skip ?_
   refine DW.seq ?_
   refine DW.join (ι := (List Task) × Int) (fun (y2 : (List Task) × Int) => mkSt [(0, ow 0 y2.1.length), (1, .fn 98 [rr 1]), (5, pI y2.2), (6, pI s1.2.2)] [(0, ob0 (roTask y2.1)), (1, bx [pI p1c0])]) (fun y2 => (DeleteFunc_slices_TaskQExitFa_memberJ2 s1 n1) y2 = some RES) ?_ ?_
   ·intro y2 hm
    unfold DeleteFunc_slices_TaskQExitFa_memberJ2 at hm
    refine RD hnt (nn 3 []) [] [(6, pI (w64 (s1.2.2 + 1)))] [] [] trivial ?_
    exact joinDone (y2.1, y2.2, (w64 (s1.2.2 + 1))) hm Conv.eqK
   ·refine DW.block ?_
    obtain ⟨g14, g15, hm⟩ := go2 hm
    refine DW.seq (RD hnt (nn 6 []) [19] [(7, rr 1056)] [] [(1056, bx (pm (encTask (c97e1 s1))))] (an g14.1 (an g14.2 (an g15 trivial))) ?_)
    obtain ⟨r16, hr16, hm⟩ := bind_open hm
    refine DW.seq (RD hnt (nn 2 (.call 98 [1] true (pB r16) [.box [pI p1c0]] [] :: .no :: [])) [] [(29, pB (!r16))] [] [] (an (ExitFa_memberSpec (c97e1 s1) p1c0 r16 hr16) (an trivial trivial)) ?_)
    refine condM hm ?_ ?_
    ·intro h17 hm
     obtain ⟨g18, g19, hm⟩ := go2 hm
     refine DW.seq (RN hnt (nn 5 []) [(0, ow 0 (s1.1.set (Int.toNat s1.2.1) (c97e1 s1)).length), (1, .fn 98 [rr 1]), (5, pI s1.2.1), (6, pI s1.2.2)] [(0, ob0 (roTask (s1.1.set (Int.toNat s1.2.1) (c97e1 s1)))), (1, bx [pI p1c0])] [(0, ow 0 s1.1.length)] [(0, .row 4 s1.1.length (c97e4 s1))] (an g18.1 (an g18.2 (an g19 trivial))) (by kernel_rfl) (.cons rfl (MLe.ownLen (enc := encTask) (d := dTask) (f := (c97e4 s1)) (RowIs.upd RowIs.elems (c97e1 s1) rfl)) .nil) (.cons rfl (BLe.typed (RowIs.upd RowIs.elems (c97e1 s1) rfl)) .nil) ?_)
     refine RD hnt (nn 3 []) [] [(5, pI (w64 (s1.2.1 + 1)))] [] [] trivial ?_
     exact blockDone ((s1.1.set (Int.toNat s1.2.1) (c97e1 s1)), (w64 (s1.2.1 + 1))) hm Conv.eqK
    ·intro h17 hm
     refine DW.skip ?_
     exact blockDone (s1.1, s1.2.1) hm Conv.t0
  ·intro h13 hm
   refine DW.exit ?_
   refine joinQ_exit ?_
   refine KQ_exit ?_
   refine blockQ_exit ?_
   show DW _ _ _ _ _
   obtain ⟨g20, g21, hm⟩ := go2 hm
   refine DW.seq (RN hnt (nn 4 []) [(0, ow 0 (c97e3 s1).length), (5, pI s1.2.1)] [(0, ob0 (roTask (c97e3 s1))), (1, bx [pI p1c0])] [(0, ow 0 s1.1.length)] [(0, .row 4 s1.1.length (overF (elTask s1.1) (Int.toNat s1.2.1) (subN s1.1.length (Int.toNat s1.2.1)) (fun _ => [vi 0, vi 0, vi 0, vi 0])))] (an (by omega : (0 : Int) ≤ s1.2.1) (an (by omega : s1.2.1 ≤ ((s1.1.length : Nat) : Int)) (an (by omega : ((s1.1.length : Nat) : Int) ≤ ((s1.1.length : Nat) : Int)) (an g21 trivial)))) (by kernel_rfl) (.cons rfl (MLe.ownLen (enc := encTask) (d := dTask) (f := (overF (elTask s1.1) (Int.toNat s1.2.1) (subN s1.1.length (Int.toNat s1.2.1)) (fun _ => [vi 0, vi 0, vi 0, vi 0]))) (RowIs.fill RowIs.elems (c97e2) rfl (by first | exact g21 | omega))) .nil) (.cons rfl (BLe.typed (RowIs.fill RowIs.elems (c97e2) rfl (by first | exact g21 | omega))) .nil) ?_)
   obtain ⟨g22, hm⟩ := guard_open hm
   refine DW.seq (RD hnt (nn 4 []) [0, 5] [(4, ow 0 (Int.toNat s1.2.1))] [] [] (an (by omega : (0 : Int) ≤ 0) (an (by omega : (0 : Int) ≤ s1.2.1) (an (by omega : s1.2.1 ≤ (((fillL s1.1 (Int.toNat s1.2.1) (subN s1.1.length (Int.toNat s1.2.1)) ({ id := 0, process := 0, group := 0, user := 0 } : Task)).length : Nat) : Int)) trivial))) ?_)
   refine DW.ret ?_
   obtain rfl := Option.some.inj hm
   exact retK [roTask (c97e3 s1), .box [pI p1c0]] [] (ow 0 (Int.toNat s1.2.1))

abbrev c43e1 : Nat × Obj := (1032, bx [ow 100000 0, pI 0, .p (.sl .nil 0 0 (fun _ => [])), pI 0])
abbrev c43e2 : Nat × Obj := (1032, bx [.p (.sl .nil 0 0 (fun _ => [])), pI 0, .p (.sl .nil 0 0 (fun _ => [])), pI 0])
abbrev c43e3 : Nat × Body := (1032, .box [ow 100000 0, pI 0, .p (.sl .nil 0 0 (fun _ => [])), pI 0])
theorem Exit_memberSpec (p0 : Hierarchy) (p1 : Int) (RES : Hierarchy × Int) (hm : Exit_member p0 p1 = some RES) : Spec Tryz.prog 43 [.p (.agg (encHierarchy p0)), pI p1] [] (.tup [.agg [ow 0 RES.1.tree.nodes.length, pI RES.1.tree.next, .p (slTask RES.1.tasks), pI RES.1.next], pI RES.2]) [] [roNode RES.1.tree.nodes] := by
 unfold Exit_member at hm
 refine SO Tryz.func43 rfl rfl [(0, .p (.agg (encHierarchy p0))), (1, pI p1)] [] ?_
 intro cx hnt
 refine DW.seq (RK hnt (nn 4 []) [(2, rr 1016), (3, rr 1024), (4, rr 1032)] [(1016, bx (pm (encHierarchy p0))), (1024, bx [pI p1]), (c43e2)] trivial ?_)
 obtain ⟨r1, hr1, hm⟩ := bind_open hm
 refine DW.seq (DW.seq (RD hnt (.no :: .call 51 [] true (pB r1) [] [] :: .no :: []) [] [(9, pB (!r1))] [] [] (an (Check_memberSpec p0 r1 hr1) trivial) ?_))
 refine condM hm ?_ ?_
 ·intro h2 hm
  refine DW.seq (RD hnt (nn 3 []) [2, 3, 9] [(5, pI 1)] [1016, 1024] [] trivial ?_)
  refine DW.conv (τ := mkSt [(4, rr 1032), (5, pI 1)] [(1032, bx [ow 100000 0, pI 0, .p (slTask []), pI 0]), (100000, ob0 (roNode []))]) (Conv.trans (τ := mkSt [(4, rr 1032), (5, pI 1)] [(c43e2)]) Conv.eqK (Conv.trans (τ := mkSt [(4, rr 1032), (5, pI 1)] ((100000, ⟨0, .row 6 0 (elems encNode dNode [])⟩) :: [(c43e1)])) (Conv.adopt 100000 6 (elems encNode dNode []) rfl rfl (.rfl _) (.box (.cons (.nil _ _) (.cons (.rfl _) (.cons (.rfl _) (.cons (.rfl _) (.rfl _))))) (.rfl _))) (Conv.trans (τ := mkSt [(4, rr 1032), (5, pI 1)] [(c43e1), (100000, ob0 (roNode []))]) Conv.t0 (Conv.tp [] [(c43e3)] (by kernel_rfl) .nil (.cons rfl (.box (.cons .rfl (.cons .rfl (.cons MLe.nilL (.cons .rfl .nil))))) .nil))))) ?_
  refine DW.ret ?_
  obtain rfl := Option.some.inj hm
  exact retK [roNode []] [100000] (.tup [.agg [ow 0 0, pI 0, .p (slTask []), pI 0], pI 1])
 ·intro h2 hm
  refine DW.skip ?_
  obtain ⟨r3, hr3, hm⟩ := bind_open hm
  refine DW.seq (DW.seq (RD hnt (nn 2 (.call 95 [] true (pI r3) [] [] :: .no :: [])) [9] [(14, pB (decide (r3 < 0)))] [] [] (an (At_crewSpec p0 p1 r3 hr3) trivial) ?_))
  refine condM hm ?_ ?_
  ·intro h4 hm
   refine DW.seq (RD hnt (nn 3 []) [2, 3, 14] [(5, pI 4)] [1016, 1024] [] trivial ?_)
   refine DW.conv (τ := mkSt [(4, rr 1032), (5, pI 4)] [(1032, bx [ow 100000 0, pI 0, .p (slTask []), pI 0]), (100000, ob0 (roNode []))]) (Conv.trans (τ := mkSt [(4, rr 1032), (5, pI 4)] [(c43e2)]) Conv.eqK (Conv.trans (τ := mkSt [(4, rr 1032), (5, pI 4)] ((100000, ⟨0, .row 6 0 (elems encNode dNode [])⟩) :: [(c43e1)])) (Conv.adopt 100000 6 (elems encNode dNode []) rfl rfl (.rfl _) (.box (.cons (.nil _ _) (.cons (.rfl _) (.cons (.rfl _) (.cons (.rfl _) (.rfl _))))) (.rfl _))) (Conv.trans (τ := mkSt [(4, rr 1032), (5, pI 4)] [(c43e1), (100000, ob0 (roNode []))]) Conv.t0 (Conv.tp [] [(c43e3)] (by kernel_rfl) .nil (.cons rfl (.box (.cons .rfl (.cons .rfl (.cons MLe.nilL (.cons .rfl .nil))))) .nil))))) ?_
   refine DW.ret ?_
   obtain rfl := Option.some.inj hm
   exact retK [roNode []] [100000] (.tup [.agg [ow 0 0, pI 0, .p (slTask []), pI 0], pI 4])
  ·intro h4 hm
   refine DW.skip ?_
   obtain ⟨r5, hr5, hm⟩ := bind_open hm
   refine DW.seq (RD hnt (.no :: .call 96 [] true (.agg [ow 0 r5.tree.nodes.length, pI r5.tree.next, ow 1 r5.tasks.length, pI r5.next]) [] [roNode r5.tree.nodes, roTask r5.tasks] :: nn 2 []) [2, 14] [(6, rr 1048)] [1016] [(1048, bx [ow 1136 r5.tree.nodes.length, pI r5.tree.next, ow 1137 r5.tasks.length, pI r5.next]), (1136, ob0 (roNode r5.tree.nodes)), (1137, ob0 (roTask r5.tasks))] (an (Copy_crewSpec p0 r5 hr5) trivial) ?_)
   obtain ⟨r6, hr6, hm⟩ := bind_open hm
   obtain ⟨g7, g8, hm⟩ := go2 hm
   refine DW.seq (RD hnt (nn 3 (.call 97 [1137, 1024] true (ow 0 r6.1) [roTask r6.2.1, .box [pI r6.2.2]] [] :: nn 2 [])) [3] [] [1024] [(1048, bx [ow 1136 r5.tree.nodes.length, pI r5.tree.next, ow 1137 r6.1, pI r5.next]), (1137, ob0 (roTask r6.2.1))] (an (DeleteFunc_slices_TaskQExitFa_memberSpec r5.tasks p1 r6 hr6) (an (⟨rfl, g7⟩ : Body.same (roTask r5.tasks) (roTask r6.2.1)) (an trivial trivial))) ?_)
   refine DW.seq (RD hnt (nn 3 []) [6] [(5, pI 0)] [1048] [(1032, bx [ow 1136 r5.tree.nodes.length, pI r5.tree.next, ow 1137 r6.1, pI r5.next])] trivial ?_)
   refine DW.conv (τ := mkSt [(4, rr 1032), (5, pI 0)] [(1032, bx [ow 1136 r5.tree.nodes.length, pI r5.tree.next, .p (slTask (r6.2.1.take r6.1)), pI r5.next]), (1136, ob0 (roNode r5.tree.nodes))]) (Conv.trans (τ := mkSt [(4, rr 1032), (5, pI 0)] [(1032, bx [ow 1136 r5.tree.nodes.length, pI r5.tree.next, .p (.sl .unk 4 r6.1 (elTask r6.2.1)), pI r5.next]), (1136, ob0 (roNode r5.tree.nodes))]) (Conv.freezes [1137] (by kernel_rfl)) (Conv.tp [] [(1032, .box [ow 1136 r5.tree.nodes.length, pI r5.tree.next, .p (.sl .unk 4 r6.1 (elTask r6.2.1)), pI r5.next])] (by kernel_rfl) .nil (.cons rfl (.box (.cons .rfl (.cons .rfl (.cons (MLe.typed (RowIs.take RowIs.elems (by first | omega | (simp only [subN_eq, addN_eq] at *; omega)))) (.cons .rfl .nil))))) .nil))) ?_
   refine DW.ret ?_
   obtain rfl := Option.some.inj hm
   exact retK [roNode r5.tree.nodes] [1136] (.tup [.agg [ow 0 r5.tree.nodes.length, pI r5.tree.next, .p (slTask (r6.2.1.take r6.1)), pI r5.next], pI 0])

theorem sane_law6Spec (RES : Bool) (hm : sane_law6 = some RES) : Spec Tryz.prog 42 [] [] (pB RES) [] [] := by
 unfold sane_law6 at hm
 refine SO Tryz.func42 rfl rfl [] [] ?_
 intro cx hnt
 refine DW.seq (RK hnt (.no :: []) [] [] trivial ?_)
 obtain ⟨r1, hr1, hm⟩ := bind_open hm
 obtain ⟨r2, hr2, hm⟩ := bind_open hm
 refine DW.seq (RK hnt (.call 63 [] true (.agg [ow 0 r1.tree.nodes.length, pI r1.tree.next, ow 1 r1.tasks.length, pI r1.next]) [] [roNode r1.tree.nodes, roTask r1.tasks] :: .call 45 [] false (.tup [.agg [ow 0 r2.1.tree.nodes.length, pI r2.1.tree.next, ow 1 r2.1.tasks.length, pI r2.1.next], pI r2.2.1, pI r2.2.2]) [] [roNode r2.1.tree.nodes, roTask r2.1.tasks] :: nn 8 []) [(1, rr 1008), (2, pI r2.2.1), (3, pI r2.2.2)] [(1008, bx [ow 1080 r2.1.tree.nodes.length, pI r2.1.tree.next, ow 1081 r2.1.tasks.length, pI r2.1.next]), (1080, ob0 (roNode r2.1.tree.nodes)), (1081, ob0 (roTask r2.1.tasks))] (an (New_memberSpec r1 hr1) (an (Spawn_memberSpec r1 1 0 r2 hr2) trivial)) ?_)
 refine DW.seq (DW.conv (τ := mkSt [(1, rr 1008), (2, pI r2.2.1), (3, pI r2.2.2)] [(1008, bx [.p (slNode r2.1.tree.nodes), pI r2.1.tree.next, ow 1081 r2.1.tasks.length, pI r2.1.next]), (1081, ob0 (roTask r2.1.tasks))]) (Conv.freezes [1080] (by kernel_rfl)) ?_)
 refine DW.conv (τ := mkSt [(1, rr 1008), (2, pI r2.2.1), (3, pI r2.2.2)] [(1008, bx (pm (encHierarchy r2.1)))]) (Conv.freezes [1081] (by kernel_rfl)) ?_
 obtain ⟨r5, hr5, hm⟩ := bind_open hm
 refine RD hnt (nn 2 (.call 49 [] true (.tup [.agg [ow 0 r5.1.tree.nodes.length, pI r5.1.tree.next, ow 1 r5.1.tasks.length, pI r5.1.next], pI r5.2.1, pI r5.2.2]) [] [roNode r5.1.tree.nodes, roTask r5.1.tasks] :: nn 7 [])) [] [(4, pI r5.2.1), (5, pI r5.2.2)] [] [(1008, bx [ow 1136 r5.1.tree.nodes.length, pI r5.1.tree.next, ow 1137 r5.1.tasks.length, pI r5.1.next]), (1136, ob0 (roNode r5.1.tree.nodes)), (1137, ob0 (roTask r5.1.tasks))] (an (Clone_memberSpec r2.1 r2.2.1 r5 hr5) trivial) ?_
 refine DW.seq (DW.conv (τ := mkSt [(1, rr 1008), (2, pI r2.2.1), (3, pI r2.2.2), (4, pI r5.2.1), (5, pI r5.2.2)] [(1008, bx [.p (slNode r5.1.tree.nodes), pI r5.1.tree.next, ow 1137 r5.1.tasks.length, pI r5.1.next]), (1137, ob0 (roTask r5.1.tasks))]) (Conv.freezes [1136] (by kernel_rfl)) ?_)
 refine DW.conv (τ := mkSt [(1, rr 1008), (2, pI r2.2.1), (3, pI r2.2.2), (4, pI r5.2.1), (5, pI r5.2.2)] [(1008, bx (pm (encHierarchy r5.1)))]) (Conv.freezes [1137] (by kernel_rfl)) ?_
 obtain ⟨r8, hr8, hm⟩ := bind_open hm
 refine RD hnt (nn 2 (.call 43 [] true (.tup [.agg [ow 0 r8.1.tree.nodes.length, pI r8.1.tree.next, .p (slTask r8.1.tasks), pI r8.1.next], pI r8.2]) [] [roNode r8.1.tree.nodes] :: nn 6 [])) [1] [(6, rr 1048), (7, pI r8.2)] [1008] [(1048, bx [ow 1192 r8.1.tree.nodes.length, pI r8.1.tree.next, .p (slTask r8.1.tasks), pI r8.1.next]), (1192, ob0 (roNode r8.1.tree.nodes))] (an (Exit_memberSpec r5.1 r2.2.1 r8 hr8) trivial) ?_
 refine DW.seq (DW.regJ (sl2 := [(0, pB (((((((r2.2.2 == 0) && (r2.2.1 == 1)) && (r5.2.2 == 0)) && (r5.2.1 == 2)) && (r8.2 == 0)) && (((r8.1.tasks.length : Nat) : Int) == 0)) && (r8.1.next == 3)))]) (ob2 := []) ?_ ?_)
 ·rcases bt (r2.2.2 == 0) with h9 | h9
  ·rcases bt (r2.2.1 == 1) with h10 | h10
   ·rcases bt (r5.2.2 == 0) with h11 | h11
    ·rcases bt (r5.2.1 == 2) with h12 | h12
     ·rcases bt (r8.2 == 0) with h13 | h13
      ·rcases bt (((r8.1.tasks.length : Nat) : Int) == 0) with h14 | h14
       ·exact RT hnt (nn 5 (pT :: nn 3 (pT :: nn 3 (pT :: nn 3 (pT :: nn 5 (pT :: nn 4 (pT :: .no :: []))))))) [(0, pB (r8.1.next == 3))] (an3 h9 (an3 h10 (an3 h11 (an3 h12 (an5 h13 (an4 h14 trivial)))))) (by kernel_rfl) (.cons rfl (.of_eq (by rw [h9, h10, h11, h12, h13, h14]; try rfl)) .nil)
       ·exact RT hnt (nn 5 (pT :: nn 3 (pT :: nn 3 (pT :: nn 3 (pT :: nn 5 (pT :: .no :: sk 3 (pF :: .no :: []))))))) [(0, pB false)] (an3 h9 (an3 h10 (an3 h11 (an3 h12 (an5 h13 (an4 h14 trivial)))))) (by kernel_rfl) (.cons rfl (.of_eq (by rw [h9, h10, h11, h12, h13, h14]; try rfl)) .nil)
      ·exact RT hnt (nn 5 (pT :: nn 3 (pT :: nn 3 (pT :: nn 3 (pT :: .no :: sk 4 (pF :: .no :: sk 3 (pF :: .no :: []))))))) [(0, pB false)] (an3 h9 (an3 h10 (an3 h11 (an3 h12 (an5 h13 (an4 ff trivial)))))) (by kernel_rfl) (.cons rfl (.of_eq (by rw [h9, h10, h11, h12, h13]; try rfl)) .nil)
     ·exact RT hnt (nn 5 (pT :: nn 3 (pT :: nn 3 (pT :: .no :: sk 2 (pF :: .no :: sk 4 (pF :: .no :: sk 3 (pF :: .no :: []))))))) [(0, pB false)] (an3 h9 (an3 h10 (an3 h11 (an3 h12 (an3 ff (an6 ff trivial)))))) (by kernel_rfl) (.cons rfl (.of_eq (by rw [h9, h10, h11, h12]; try rfl)) .nil)
    ·exact RT hnt (nn 5 (pT :: nn 3 (pT :: .no :: sk 2 (pF :: .no :: sk 2 (pF :: .no :: sk 4 (pF :: .no :: sk 3 (pF :: .no :: []))))))) [(0, pB false)] (an3 h9 (an3 h10 (an3 h11 (an6 ff (an6 ff trivial))))) (by kernel_rfl) (.cons rfl (.of_eq (by rw [h9, h10, h11]; try rfl)) .nil)
   ·exact RT hnt (nn 5 (pT :: .no :: sk 2 (pF :: .no :: sk 2 (pF :: .no :: sk 2 (pF :: .no :: sk 4 (pF :: .no :: sk 3 (pF :: .no :: []))))))) [(0, pB false)] (an3 h9 (an3 h10 (an3 ff (an6 ff (an6 ff trivial))))) (by kernel_rfl) (.cons rfl (.of_eq (by rw [h9, h10]; try rfl)) .nil)
  ·exact RT hnt (nn 3 (sk 2 (pF :: .no :: sk 2 (pF :: .no :: sk 2 (pF :: .no :: sk 2 (pF :: .no :: sk 4 (pF :: .no :: sk 3 (pF :: .no :: [])))))))) [(0, pB false)] (an3 h9 (an6 ff (an6 ff (an6 ff trivial)))) (by kernel_rfl) (.cons rfl (.of_eq (by rw [h9]; try rfl)) .nil)
 ·refine DW.ret ?_
  obtain rfl := Option.some.inj hm
  exact retK [] [] (pB (((((((r2.2.2 == 0) && (r2.2.1 == 1)) && (r5.2.2 == 0)) && (r5.2.1 == 2)) && (r8.2 == 0)) && (((r8.1.tasks.length : Nat) : Int) == 0)) && (r8.1.next == 3)))

theorem Roll_madeSpec (p0 : List Int) (RES : Dice) (hm : Roll_made p0 = some RES) : Spec Tryz.prog 16 [.p (slI p0)] [] (rr 0) [] [.box (pm (encDice RES))] := by
 unfold Roll_made at hm
 refine SO Tryz.func16 rfl rfl [(0, .p (slI p0))] [] ?_
 intro cx hnt
 refine DW.seq (RK hnt (.no :: []) [(0, .p (slI p0))] [] trivial ?_)
 refine DW.seq (RK hnt (nn 4 []) [(2, rr 1040)] [(1040, bx [.p (slI p0), pI 0])] trivial ?_)
 refine DW.ret ?_
 obtain rfl := Option.some.inj hm
 exact retK [.box [.p (slI p0), pI 0]] [1040] (rr 0)

abbrev c120e1 := ({ id := 1, parent := 0, name := ByteArray.empty, control := 0, kind := 0, owner := 0 } : Node)
theorem New_ref5Spec (RES : Tree) (hm : New_ref5 = some RES) : Spec Tryz.prog 120 [] [] (.agg [ow 0 RES.nodes.length, pI RES.next]) [] [roNode RES.nodes] := by
 unfold New_ref5 at hm
 refine SO Tryz.func120 rfl rfl [] [] ?_
 intro cx hnt
 refine DW.seq (RK hnt (.no :: []) [(0, rr 1000)] [(1000, bx [.p (.sl .nil 0 0 (fun _ => [])), pI 0])] trivial ?_)
 refine DW.seq (RN hnt (nn 4 []) [(0, rr 1000)] [(1000, bx [ow 1016 [(c120e1)].length, pI 2]), (1016, ob0 (roNode [(c120e1)]))] [] [(1000, .box [ow 1016 1, pI 2]), (1016, .row 6 1 (cut 6 [vi 1, vi 0, vs ByteArray.empty, vi 0, vi 0, vi 0]))] trivial (by kernel_rfl) .nil (.cons rfl (.box (.cons (MLe.ownLen (enc := encNode) (d := dNode) (f := (cut 6 [vi 1, vi 0, vs ByteArray.empty, vi 0, vi 0, vi 0])) (RowIs.lit (enc := encNode) (d := dNode) (n := 1) (f := (cut 6 [vi 1, vi 0, vs ByteArray.empty, vi 0, vi 0, vi 0])) [(c120e1)] rfl (fun | 0, _ => rfl | n + 1, h => absurd h (by omega)))) (.cons .rfl .nil))) (.cons rfl (BLe.typed (RowIs.lit (enc := encNode) (d := dNode) (n := 1) (f := (cut 6 [vi 1, vi 0, vs ByteArray.empty, vi 0, vi 0, vi 0])) [(c120e1)] rfl (fun | 0, _ => rfl | n + 1, h => absurd h (by omega)))) .nil)) ?_)
 refine DW.ret ?_
 obtain rfl := Option.some.inj hm
 exact retK [roNode [(c120e1)]] [1016] (.agg [ow 0 [(c120e1)].length, pI 2])

theorem New_ref6Spec (RES : Hierarchy) (hm : New_ref6 = some RES) : Spec Tryz.prog 64 [] [] (.agg [ow 0 RES.tree.nodes.length, pI RES.tree.next, ow 1 RES.tasks.length, pI RES.next]) [] [roNode RES.tree.nodes, roTask RES.tasks] := by
 unfold New_ref6 at hm
 refine SO Tryz.func64 rfl rfl [] [] ?_
 intro cx hnt
 refine DW.seq (RK hnt (.no :: []) [(0, rr 1000)] [(1000, bx [.p (.sl .nil 0 0 (fun _ => [])), pI 0, .p (.sl .nil 0 0 (fun _ => [])), pI 0])] trivial ?_)
 obtain ⟨r1, hr1, hm⟩ := bind_open hm
 refine DW.seq (RK hnt (.call 120 [] true (.agg [ow 0 r1.nodes.length, pI r1.next]) [] [roNode r1.nodes] :: nn 2 []) [(0, rr 1000)] [(1000, bx [ow 1008 r1.nodes.length, pI r1.next, .p (.sl .nil 0 0 (fun _ => [])), pI 1]), (1008, ob0 (roNode r1.nodes))] (an (New_ref5Spec r1 hr1) trivial) ?_)
 refine DW.conv (τ := mkSt [(0, rr 1000)] [(1000, bx [ow 1008 r1.nodes.length, pI r1.next, ow 100000 0, pI 1]), (1008, ob0 (roNode r1.nodes)), (100000, ob0 (roTask []))]) (Conv.trans (τ := mkSt [(0, rr 1000)] ((100000, ⟨0, .row 4 0 (elems encTask dTask [])⟩) :: [(1000, bx [ow 1008 r1.nodes.length, pI r1.next, ow 100000 0, pI 1]), (1008, ob0 (roNode r1.nodes))])) (Conv.adopt 100000 4 (elems encTask dTask []) rfl rfl (.rfl _) (.box (.cons (.rfl _) (.cons (.rfl _) (.cons (.nil _ _) (.cons (.rfl _) (.rfl _))))) (.keep (.rfl _)))) Conv.t0) ?_
 refine DW.ret ?_
 obtain rfl := Option.some.inj hm
 exact retK [roNode r1.nodes, roTask []] [1008, 100000] (.agg [ow 0 r1.nodes.length, pI r1.next, ow 1 0, pI 1])

abbrev c19e1 (p0 : Dice) := (p0.l.getD (Int.toNat (w64 ((w64 (p0.atF + 1)) - 1))) 0)
theorem Next_Dice_madeSpec (p0 : Dice) (p1 : Int) (RES : Int × Dice) (hm : Next_Dice_made p0 p1 = some RES) : Spec Tryz.prog 19 [rr 0, pI p1] [.box (pm (encDice p0))] (pI RES.1) [.box (pm (encDice RES.2))] [] := by
 unfold Next_Dice_made at hm
 refine SO Tryz.func19 rfl rfl [(0, rr 0), (1, pI p1)] [(0, bx (pm (encDice p0)))] ?_
 intro cx hnt
 refine DW.seq (RD hnt (.no :: []) [] [] [] [] trivial ?_)
 refine DW.seq (DW.seq (DW.regJ (sl2 := [(0, rr 0), (1, pI p1), (19, pB ((decide (p0.atF ≥ ((p0.l.length : Nat) : Int))) || (decide (p1 < 1))))]) (ob2 := [(0, bx (pm (encDice p0)))]) ?_ ?_))
 ·rcases bt (decide (p0.atF ≥ ((p0.l.length : Nat) : Int))) with h1 | h1
  ·exact RT hnt (nn 11 (sk 2 (pT :: []))) [(19, pB true)] (an3 h1 trivial) (by kernel_rfl) (.cons rfl (.of_eq (by rw [h1]; try rfl)) .nil)
  ·exact RT hnt (nn 13 (pF :: [])) [(19, pB (decide (p1 < 1)))] (an3 h1 trivial) (by kernel_rfl) (.cons rfl (.of_eq (by rw [h1]; try rfl)) .nil)
 ·refine condM hm ?_ ?_
  ·intro h2 hm
   refine DW.seq (RD hnt (.no :: []) [0, 1, 19] [(4, pI 0)] [] [] trivial ?_)
   refine DW.ret ?_
   obtain rfl := Option.some.inj hm
   exact retK [.box (pm (encDice p0))] [] (pI 0)
  ·intro h2 hm
   refine DW.skip ?_
   refine DW.seq (RD hnt (nn 8 []) [19] [] [] [(0, bx [.p (slI p0.l), pI (w64 (p0.atF + 1))])] trivial ?_)
   obtain ⟨g3, g4, hm⟩ := go2 hm
   refine DW.seq (RD hnt (nn 14 []) [0] [(5, pI (Int.tmod (c19e1 p0) p1))] [] [] (an g3.1 (an g3.2 (an g4 trivial))) ?_)
   refine DW.seq (DW.seq (RD hnt (nn 2 []) [] [(41, pB (decide ((Int.tmod (c19e1 p0) p1) < 0)))] [] [] trivial ?_))
   refine DW.join (ι := Int) (fun (y1 : Int) => mkSt [(5, pI y1)] [(0, bx [.p (slI p0.l), pI (w64 (p0.atF + 1))])]) (fun y1 => (Next_Dice_madeJ1 p0) y1 = some RES) ?_ ?_
   ·intro y1 hm
    unfold Next_Dice_madeJ1 at hm
    refine DW.seq (RD hnt (nn 2 []) [5] [(4, pI y1)] [] [] trivial ?_)
    refine DW.ret ?_
    obtain rfl := Option.some.inj hm
    exact retK [.box [.p (slI p0.l), pI (w64 (p0.atF + 1))]] [] (pI y1)
   ·refine condM hm ?_ ?_
    ·intro h5 hm
     refine RD hnt (nn 4 []) [1, 41] [(5, pI (w64 ((Int.tmod (c19e1 p0) p1) + p1)))] [] [] trivial ?_
     exact joinDone (w64 ((Int.tmod (c19e1 p0) p1) + p1)) hm Conv.eqK
    ·intro h5 hm
     refine DW.skip ?_
     exact joinDone (Int.tmod (c19e1 p0) p1) hm Conv.t0

theorem Name_Dice_madeSpec (p0 : Dice) (RES : ByteArray × Dice) (hm : Name_Dice_made p0 = some RES) : Spec Tryz.prog 132 [rr 0] [.box (pm (encDice p0))] (pS RES.1) [.box (pm (encDice RES.2))] [] := by
 unfold Name_Dice_made at hm
 refine SO Tryz.func132 rfl rfl [(0, rr 0)] [(0, bx (pm (encDice p0)))] ?_
 intro cx hnt
 refine DW.seq (RD hnt (.no :: []) [] [] [] [] trivial ?_)
 obtain ⟨r3, hr3, hm⟩ := bind_open hm
 obtain ⟨g4, g5, hm⟩ := go2 hm
 refine DW.seq (RK hnt (.asR (ow 1024 [(bs [97]), (bs [98]), (bs [99]), (bs [119, 101, 98]), (bs [100, 98, 45, 49]), (bs [88, 95, 57])].length) [(bs [97]), (bs [98]), (bs [99]), (bs [119, 101, 98]), (bs [100, 98, 45, 49]), (bs [88, 95, 57])].length (elems encS ByteArray.empty [(bs [97]), (bs [98]), (bs [99]), (bs [119, 101, 98]), (bs [100, 98, 45, 49]), (bs [88, 95, 57])]) :: .no :: .call 19 [0] true (pI r3.1) [.box (pm (encDice r3.2))] [] :: nn 3 []) [(2, pS ([(bs [97]), (bs [98]), (bs [99]), (bs [119, 101, 98]), (bs [100, 98, 45, 49]), (bs [88, 95, 57])].getD (Int.toNat r3.1) ByteArray.empty))] [(0, bx (pm (encDice r3.2)))] (an (congrArg (MV.own 1024 0 0) (RowIs.asP (enc := encS) (d := ByteArray.empty) (L := [(bs [97]), (bs [98]), (bs [99]), (bs [119, 101, 98]), (bs [100, 98, 45, 49]), (bs [88, 95, 57])]) (RowIs.lit (enc := encS) (d := ByteArray.empty) (n := 6) (f := (cut 1 [vs (bs [97]), vs (bs [98]), vs (bs [99]), vs (bs [119, 101, 98]), vs (bs [100, 98, 45, 49]), vs (bs [88, 95, 57])])) [(bs [97]), (bs [98]), (bs [99]), (bs [119, 101, 98]), (bs [100, 98, 45, 49]), (bs [88, 95, 57])] rfl (fun | 0, _ => rfl | 1, _ => rfl | 2, _ => rfl | 3, _ => rfl | 4, _ => rfl | 5, _ => rfl | n + 6, h => absurd h (by omega)))).1) (an (RowIs.asP (enc := encS) (d := ByteArray.empty) (L := [(bs [97]), (bs [98]), (bs [99]), (bs [119, 101, 98]), (bs [100, 98, 45, 49]), (bs [88, 95, 57])]) (RowIs.lit (enc := encS) (d := ByteArray.empty) (n := 6) (f := (cut 1 [vs (bs [97]), vs (bs [98]), vs (bs [99]), vs (bs [119, 101, 98]), vs (bs [100, 98, 45, 49]), vs (bs [88, 95, 57])])) [(bs [97]), (bs [98]), (bs [99]), (bs [119, 101, 98]), (bs [100, 98, 45, 49]), (bs [88, 95, 57])] rfl (fun | 0, _ => rfl | 1, _ => rfl | 2, _ => rfl | 3, _ => rfl | 4, _ => rfl | 5, _ => rfl | n + 6, h => absurd h (by omega)))) (an (Next_Dice_madeSpec p0 6 r3 hr3) (an trivial (an g4.1 (an g4.2 (an g5 trivial))))))) ?_)
 refine DW.ret ?_
 obtain rfl := Option.some.inj hm
 exact retK [.box (pm (encDice r3.2))] [] (pS ([(bs [97]), (bs [98]), (bs [99]), (bs [119, 101, 98]), (bs [100, 98, 45, 49]), (bs [88, 95, 57])].getD (Int.toNat r3.1) ByteArray.empty))

abbrev c163e1 (p0 : ByteArray) (k1 : Int) : Nat × MV := (57, pB (!((((byteAt p0 (Int.toNat k1)) : Nat) : Int) == 45)))
theorem Valid_ref1Spec (p0 : ByteArray) (RES : Bool) (hm : Valid_ref1 p0 = some RES) : Spec Tryz.prog 163 [pS p0] [] (pB RES) [] [] := by
 unfold Valid_ref1 at hm
 refine SO Tryz.func163 rfl rfl [(0, pS p0)] [] ?_
 intro cx hnt
 refine DW.seq (RK hnt (.no :: []) [(0, pS p0)] [] trivial ?_)
 refine DW.seq (DW.seq ?_)
 refine DW.join (ι := Bool) (fun (y1 : Bool) => mkSt [(0, pS p0), (17, pB y1)] []) (fun y1 => (Valid_ref1J1 p0) y1 = some RES) ?_ ?_
 ·intro y1 hm
  unfold Valid_ref1J1 at hm
  refine condM hm ?_ ?_
  ·intro h4 hm
   refine DW.seq (RK hnt (.no :: []) [(2, pB false)] [] trivial ?_)
   refine DW.ret ?_
   obtain rfl := Option.some.inj hm
   exact retK [] [] (pB false)
  ·intro h4 hm
   refine DW.skip ?_
   refine DW.seq (DW.seq (RK hnt (.no :: []) [(0, pS p0), (3, pI 0)] [] trivial ?_))
   refine DW.block ?_
   obtain ⟨hc1, hm⟩ := guard_open hm
   refine DW.forO (fun (k1 : Int) (s1 : Unit) => mkSt [(0, pS p0), (3, pI k1)] []) (lo := 0) (hi := ((p0.size : Nat) : Int)) hm .refl ?_
   intro k1 s1 n1 hk1 hs1 he1
   refine DW.seq (DW.seq (RD hnt (nn 4 []) [] [(21, pB (decide (k1 < ((p0.size : Nat) : Int))))] [] [] trivial ?_))
   refine condK (decide (k1 < ((p0.size : Nat) : Int))) ?_ ?_
   ·intro h55
    have hlt1 : k1 < ((p0.size : Nat) : Int) := by have := of_decide_eq_true h55; omega
    have hm := hs1 hlt1
    unfold Valid_ref1L1 at hm
    refine DW.skip ?_
    refine DW.seq (DW.block ?_)
    obtain ⟨g56, hm⟩ := guard_open hm
    refine DW.seq (RD hnt (nn 4 []) [21] [(4, .p (vk .u8 (((byteAt p0 (Int.toNat k1)) : Nat) : Int)))] [] [] (an g56.1 (an g56.2 trivial)) ?_)
    refine DW.seq (DW.regJ (sl2 := [(0, pS p0), (3, pI k1), (57, pB (!((((((decide ((((byteAt p0 (Int.toNat k1)) : Nat) : Int) ≥ 97)) && (decide ((((byteAt p0 (Int.toNat k1)) : Nat) : Int) ≤ 122))) || ((decide ((((byteAt p0 (Int.toNat k1)) : Nat) : Int) ≥ 65)) && (decide ((((byteAt p0 (Int.toNat k1)) : Nat) : Int) ≤ 90)))) || ((decide ((((byteAt p0 (Int.toNat k1)) : Nat) : Int) ≥ 48)) && (decide ((((byteAt p0 (Int.toNat k1)) : Nat) : Int) ≤ 57)))) || ((((byteAt p0 (Int.toNat k1)) : Nat) : Int) == 95)) || ((((byteAt p0 (Int.toNat k1)) : Nat) : Int) == 45))))]) (ob2 := []) ?_ ?_)
    ·rcases bt (decide ((((byteAt p0 (Int.toNat k1)) : Nat) : Int) ≥ 97)) with h57 | h57
     ·rcases bt (decide ((((byteAt p0 (Int.toNat k1)) : Nat) : Int) ≤ 122)) with h58 | h58
      ·exact RT hnt (nn 5 (pT :: .no :: sk 6 (pT :: .no :: sk 6 (pT :: .no :: sk 2 (pT :: .no :: sk 2 (pT :: .no :: [])))))) [(57, pB false)] (an3 h57 (an5 h58 (an5 tt (an6 tt trivial)))) (by kernel_rfl) (.cons rfl (.of_eq (by rw [h57, h58]; try rfl)) .nil)
      ·rcases bt (decide ((((byteAt p0 (Int.toNat k1)) : Nat) : Int) ≥ 65)) with h59 | h59
       ·rcases bt (decide ((((byteAt p0 (Int.toNat k1)) : Nat) : Int) ≤ 90)) with h60 | h60
        ·exact RT hnt (nn 5 (pT :: nn 6 (pT :: pF :: .no :: sk 6 (pT :: .no :: sk 2 (pT :: .no :: sk 2 (pT :: .no :: [])))))) [(57, pB false)] (an3 h57 (an3 h58 (an2 h59 (an h58 (an h59 (an h58 (an5 h60 (an6 tt trivial)))))))) (by kernel_rfl) (.cons rfl (.of_eq (by rw [h57, h58, h59, h60]; try rfl)) .nil)
        ·rcases bt (decide ((((byteAt p0 (Int.toNat k1)) : Nat) : Int) ≥ 48)) with h61 | h61
         ·rcases bt (decide ((((byteAt p0 (Int.toNat k1)) : Nat) : Int) ≤ 57)) with h62 | h62
          ·exact RT hnt (nn 5 (pT :: nn 6 (pT :: pF :: nn 6 (pT :: pF :: .no :: sk 2 (pT :: .no :: sk 2 (pT :: .no :: [])))))) [(57, pB false)] (an3 h57 (an3 h58 (an2 h59 (an h58 (an h59 (an h58 (an3 h60 (an2 h61 (an h60 (an h61 (an h60 (an3 h62 (an3 tt trivial))))))))))))) (by kernel_rfl) (.cons rfl (.of_eq (by rw [h57, h58, h59, h60, h61, h62]; try rfl)) .nil)
          ·rcases bt ((((byteAt p0 (Int.toNat k1)) : Nat) : Int) == 95) with h63 | h63
           ·exact RT hnt (nn 5 (pT :: nn 6 (pT :: pF :: nn 6 (pT :: pF :: nn 3 (pF :: .no :: sk 2 (pT :: .no :: [])))))) [(57, pB false)] (an3 h57 (an3 h58 (an2 h59 (an h58 (an h59 (an h58 (an3 h60 (an2 h61 (an h60 (an h61 (an h60 (an3 h62 (an3 h63 trivial))))))))))))) (by kernel_rfl) (.cons rfl (.of_eq (by rw [h57, h58, h59, h60, h61, h62, h63]; try rfl)) .nil)
           ·exact RT hnt (nn 5 (pT :: nn 6 (pT :: pF :: nn 6 (pT :: pF :: nn 3 (pF :: nn 3 (pF :: .no :: [])))))) [(c163e1 p0 k1)] (an3 h57 (an3 h58 (an2 h59 (an h58 (an h59 (an h58 (an3 h60 (an2 h61 (an h60 (an h61 (an h60 (an3 h62 (an3 h63 trivial))))))))))))) (by kernel_rfl) (.cons rfl (.of_eq (by rw [h57, h58, h59, h60, h61, h62, h63]; try rfl)) .nil)
         ·rcases bt ((((byteAt p0 (Int.toNat k1)) : Nat) : Int) == 95) with h64 | h64
          ·exact RT hnt (nn 5 (pT :: nn 6 (pT :: pF :: nn 4 (sk 2 (pF :: pF :: nn 3 (pF :: .no :: sk 2 (pT :: .no :: []))))))) [(57, pB false)] (an3 h57 (an3 h58 (an2 h59 (an h58 (an h59 (an h58 (an3 h60 (an2 h61 (an h60 (an h61 (an h60 (an3 ff (an3 h64 trivial))))))))))))) (by kernel_rfl) (.cons rfl (.of_eq (by rw [h57, h58, h59, h60, h61, h64]; try rfl)) .nil)
          ·exact RT hnt (nn 5 (pT :: nn 6 (pT :: pF :: nn 4 (sk 2 (pF :: pF :: nn 3 (pF :: nn 3 (pF :: .no :: []))))))) [(c163e1 p0 k1)] (an3 h57 (an3 h58 (an2 h59 (an h58 (an h59 (an h58 (an3 h60 (an2 h61 (an h60 (an h61 (an h60 (an3 ff (an3 h64 trivial))))))))))))) (by kernel_rfl) (.cons rfl (.of_eq (by rw [h57, h58, h59, h60, h61, h64]; try rfl)) .nil)
       ·rcases bt (decide ((((byteAt p0 (Int.toNat k1)) : Nat) : Int) ≥ 48)) with h65 | h65
        ·rcases bt (decide ((((byteAt p0 (Int.toNat k1)) : Nat) : Int) ≤ 57)) with h66 | h66
         ·exact RT hnt (nn 5 (pT :: nn 4 (sk 2 (pF :: pF :: nn 6 (pT :: pF :: .no :: sk 2 (pT :: .no :: sk 2 (pT :: .no :: []))))))) [(57, pB false)] (an3 h57 (an3 h58 (an2 h59 (an h58 (an h59 (an h58 (an3 ff (an2 h65 (an ff (an h65 (an ff (an3 h66 (an3 tt trivial))))))))))))) (by kernel_rfl) (.cons rfl (.of_eq (by rw [h57, h58, h59, h65, h66]; try rfl)) .nil)
         ·rcases bt ((((byteAt p0 (Int.toNat k1)) : Nat) : Int) == 95) with h67 | h67
          ·exact RT hnt (nn 5 (pT :: nn 4 (sk 2 (pF :: pF :: nn 6 (pT :: pF :: nn 3 (pF :: .no :: sk 2 (pT :: .no :: []))))))) [(57, pB false)] (an3 h57 (an3 h58 (an2 h59 (an h58 (an h59 (an h58 (an3 ff (an2 h65 (an ff (an h65 (an ff (an3 h66 (an3 h67 trivial))))))))))))) (by kernel_rfl) (.cons rfl (.of_eq (by rw [h57, h58, h59, h65, h66, h67]; try rfl)) .nil)
          ·exact RT hnt (nn 5 (pT :: nn 4 (sk 2 (pF :: pF :: nn 6 (pT :: pF :: nn 3 (pF :: nn 3 (pF :: .no :: []))))))) [(c163e1 p0 k1)] (an3 h57 (an3 h58 (an2 h59 (an h58 (an h59 (an h58 (an3 ff (an2 h65 (an ff (an h65 (an ff (an3 h66 (an3 h67 trivial))))))))))))) (by kernel_rfl) (.cons rfl (.of_eq (by rw [h57, h58, h59, h65, h66, h67]; try rfl)) .nil)
        ·rcases bt ((((byteAt p0 (Int.toNat k1)) : Nat) : Int) == 95) with h68 | h68
         ·exact RT hnt (nn 5 (pT :: nn 4 (sk 2 (pF :: pF :: nn 4 (sk 2 (pF :: pF :: nn 3 (pF :: .no :: sk 2 (pT :: .no :: [])))))))) [(57, pB false)] (an3 h57 (an3 h58 (an2 h59 (an h58 (an h59 (an h58 (an3 ff (an2 h65 (an ff (an h65 (an4 ff (an3 h68 trivial)))))))))))) (by kernel_rfl) (.cons rfl (.of_eq (by rw [h57, h58, h59, h65, h68]; try rfl)) .nil)
         ·exact RT hnt (nn 5 (pT :: nn 4 (sk 2 (pF :: pF :: nn 4 (sk 2 (pF :: pF :: nn 3 (pF :: nn 3 (pF :: .no :: [])))))))) [(c163e1 p0 k1)] (an3 h57 (an3 h58 (an2 h59 (an h58 (an h59 (an h58 (an3 ff (an2 h65 (an ff (an h65 (an4 ff (an3 h68 trivial)))))))))))) (by kernel_rfl) (.cons rfl (.of_eq (by rw [h57, h58, h59, h65, h68]; try rfl)) .nil)
     ·rcases bt (decide ((((byteAt p0 (Int.toNat k1)) : Nat) : Int) ≥ 65)) with h69 | h69
      ·rcases bt (decide ((((byteAt p0 (Int.toNat k1)) : Nat) : Int) ≤ 90)) with h70 | h70
       ·exact RT hnt (nn 3 (sk 2 (pF :: nn 6 (pT :: pF :: .no :: sk 6 (pT :: .no :: sk 2 (pT :: .no :: sk 2 (pT :: .no :: []))))))) [(57, pB false)] (an3 h57 (an3 ff (an2 h69 (an ff (an h69 (an ff (an5 h70 (an6 tt trivial)))))))) (by kernel_rfl) (.cons rfl (.of_eq (by rw [h57, h69, h70]; try rfl)) .nil)
       ·rcases bt (decide ((((byteAt p0 (Int.toNat k1)) : Nat) : Int) ≥ 48)) with h71 | h71
        ·rcases bt (decide ((((byteAt p0 (Int.toNat k1)) : Nat) : Int) ≤ 57)) with h72 | h72
         ·exact RT hnt (nn 3 (sk 2 (pF :: nn 6 (pT :: pF :: nn 6 (pT :: pF :: .no :: sk 2 (pT :: .no :: sk 2 (pT :: .no :: []))))))) [(57, pB false)] (an3 h57 (an3 ff (an2 h69 (an ff (an h69 (an ff (an3 h70 (an2 h71 (an h70 (an h71 (an h70 (an3 h72 (an3 tt trivial))))))))))))) (by kernel_rfl) (.cons rfl (.of_eq (by rw [h57, h69, h70, h71, h72]; try rfl)) .nil)
         ·rcases bt ((((byteAt p0 (Int.toNat k1)) : Nat) : Int) == 95) with h73 | h73
          ·exact RT hnt (nn 3 (sk 2 (pF :: nn 6 (pT :: pF :: nn 6 (pT :: pF :: nn 3 (pF :: .no :: sk 2 (pT :: .no :: []))))))) [(57, pB false)] (an3 h57 (an3 ff (an2 h69 (an ff (an h69 (an ff (an3 h70 (an2 h71 (an h70 (an h71 (an h70 (an3 h72 (an3 h73 trivial))))))))))))) (by kernel_rfl) (.cons rfl (.of_eq (by rw [h57, h69, h70, h71, h72, h73]; try rfl)) .nil)
          ·exact RT hnt (nn 3 (sk 2 (pF :: nn 6 (pT :: pF :: nn 6 (pT :: pF :: nn 3 (pF :: nn 3 (pF :: .no :: []))))))) [(c163e1 p0 k1)] (an3 h57 (an3 ff (an2 h69 (an ff (an h69 (an ff (an3 h70 (an2 h71 (an h70 (an h71 (an h70 (an3 h72 (an3 h73 trivial))))))))))))) (by kernel_rfl) (.cons rfl (.of_eq (by rw [h57, h69, h70, h71, h72, h73]; try rfl)) .nil)
        ·rcases bt ((((byteAt p0 (Int.toNat k1)) : Nat) : Int) == 95) with h74 | h74
         ·exact RT hnt (nn 3 (sk 2 (pF :: nn 6 (pT :: pF :: nn 4 (sk 2 (pF :: pF :: nn 3 (pF :: .no :: sk 2 (pT :: .no :: [])))))))) [(57, pB false)] (an3 h57 (an3 ff (an2 h69 (an ff (an h69 (an ff (an3 h70 (an2 h71 (an h70 (an h71 (an h70 (an3 ff (an3 h74 trivial))))))))))))) (by kernel_rfl) (.cons rfl (.of_eq (by rw [h57, h69, h70, h71, h74]; try rfl)) .nil)
         ·exact RT hnt (nn 3 (sk 2 (pF :: nn 6 (pT :: pF :: nn 4 (sk 2 (pF :: pF :: nn 3 (pF :: nn 3 (pF :: .no :: [])))))))) [(c163e1 p0 k1)] (an3 h57 (an3 ff (an2 h69 (an ff (an h69 (an ff (an3 h70 (an2 h71 (an h70 (an h71 (an h70 (an3 ff (an3 h74 trivial))))))))))))) (by kernel_rfl) (.cons rfl (.of_eq (by rw [h57, h69, h70, h71, h74]; try rfl)) .nil)
      ·rcases bt (decide ((((byteAt p0 (Int.toNat k1)) : Nat) : Int) ≥ 48)) with h75 | h75
       ·rcases bt (decide ((((byteAt p0 (Int.toNat k1)) : Nat) : Int) ≤ 57)) with h76 | h76
        ·exact RT hnt (nn 3 (sk 2 (pF :: nn 4 (sk 2 (pF :: pF :: nn 6 (pT :: pF :: .no :: sk 2 (pT :: .no :: sk 2 (pT :: .no :: [])))))))) [(57, pB false)] (an3 h57 (an3 ff (an2 h69 (an ff (an h69 (an4 ff (an2 h75 (an ff (an h75 (an ff (an3 h76 (an3 tt trivial)))))))))))) (by kernel_rfl) (.cons rfl (.of_eq (by rw [h57, h69, h75, h76]; try rfl)) .nil)
        ·rcases bt ((((byteAt p0 (Int.toNat k1)) : Nat) : Int) == 95) with h77 | h77
         ·exact RT hnt (nn 3 (sk 2 (pF :: nn 4 (sk 2 (pF :: pF :: nn 6 (pT :: pF :: nn 3 (pF :: .no :: sk 2 (pT :: .no :: [])))))))) [(57, pB false)] (an3 h57 (an3 ff (an2 h69 (an ff (an h69 (an4 ff (an2 h75 (an ff (an h75 (an ff (an3 h76 (an3 h77 trivial)))))))))))) (by kernel_rfl) (.cons rfl (.of_eq (by rw [h57, h69, h75, h76, h77]; try rfl)) .nil)
         ·exact RT hnt (nn 3 (sk 2 (pF :: nn 4 (sk 2 (pF :: pF :: nn 6 (pT :: pF :: nn 3 (pF :: nn 3 (pF :: .no :: [])))))))) [(c163e1 p0 k1)] (an3 h57 (an3 ff (an2 h69 (an ff (an h69 (an4 ff (an2 h75 (an ff (an h75 (an ff (an3 h76 (an3 h77 trivial)))))))))))) (by kernel_rfl) (.cons rfl (.of_eq (by rw [h57, h69, h75, h76, h77]; try rfl)) .nil)
       ·rcases bt ((((byteAt p0 (Int.toNat k1)) : Nat) : Int) == 95) with h78 | h78
        ·exact RT hnt (nn 3 (sk 2 (pF :: nn 4 (sk 2 (pF :: pF :: nn 4 (sk 2 (pF :: pF :: nn 3 (pF :: .no :: sk 2 (pT :: .no :: []))))))))) [(57, pB false)] (an3 h57 (an3 ff (an2 h69 (an ff (an h69 (an4 ff (an2 h75 (an ff (an h75 (an4 ff (an3 h78 trivial))))))))))) (by kernel_rfl) (.cons rfl (.of_eq (by rw [h57, h69, h75, h78]; try rfl)) .nil)
        ·exact RT hnt (nn 3 (sk 2 (pF :: nn 4 (sk 2 (pF :: pF :: nn 4 (sk 2 (pF :: pF :: nn 3 (pF :: nn 3 (pF :: .no :: []))))))))) [(c163e1 p0 k1)] (an3 h57 (an3 ff (an2 h69 (an ff (an h69 (an4 ff (an2 h75 (an ff (an h75 (an4 ff (an3 h78 trivial))))))))))) (by kernel_rfl) (.cons rfl (.of_eq (by rw [h57, h69, h75, h78]; try rfl)) .nil)
    ·refine condM hm ?_ ?_
     ·intro h79 hm
      refine DW.seq (RK hnt (.no :: []) [(2, pB false)] [] trivial ?_)
      refine DW.ret ?_
      obtain rfl := Option.some.inj hm
      exact retK [] [] (pB false)
     ·intro h79 hm
      refine DW.skip ?_
      refine DW.done ?_
      show DW _ _ _ _ _
      refine RK hnt (nn 3 []) [(0, pS p0), (3, pI (w64 (k1 + 1)))] [] trivial ?_
      exact joinDone () ⟨hlt1, hm⟩ (Conv.tp [(3, pI (w64 (k1 + 1)))] [] (by kernel_rfl) (.cons rfl (.of_eq (congrArg pI (w64_for (lo := 0) (hi := ((p0.size : Nat) : Int)) (by omega) hk1 hlt1 (by omega)))) .nil) .nil)
   ·intro h55
    have hge1 : ¬ k1 < ((p0.size : Nat) : Int) := by have := of_decide_eq_false h55; omega
    have hm := he1 hge1
    unfold Valid_ref1D1 at hm
    refine DW.exit ?_
    refine joinQ_exit ?_
    refine KQ_exit ?_
    refine blockQ_exit ?_
    show DW _ _ _ _ _
    refine DW.seq (RK hnt (.no :: []) [(2, pB true)] [] trivial ?_)
    refine DW.ret ?_
    obtain rfl := Option.some.inj hm
    exact retK [] [] (pB true)
 ·rcases bt (((p0.size : Nat) : Int) == 0) with h1 | h1
  ·replace hm := if_t h1 hm
   refine RK hnt (nn 4 (sk 3 (pT :: .no :: sk 3 (pT :: [])))) [(0, pS p0), (17, pB true)] [] (an4 h1 (an4 tt trivial)) ?_
   exact joinDone true hm .refl
  ·replace hm := if_f h1 hm
   rcases bt (decide (((p0.size : Nat) : Int) > 32)) with h2 | h2
   ·replace hm := if_t h2 hm
    refine RK hnt (nn 7 (pF :: .no :: sk 3 (pT :: []))) [(0, pS p0), (17, pB true)] [] (an4 h1 (an4 h2 trivial)) ?_
    exact joinDone true hm .refl
   ·replace hm := if_f h2 hm
    obtain ⟨g3, hm⟩ := guard_open hm
    refine RK hnt (nn 7 (pF :: nn 4 (pF :: []))) [(0, pS p0), (17, pB ((((byteAt p0 0) : Nat) : Int) == 45))] [] (an4 h1 (an2 h2 (an (nn0 0) (an (ltc g3) (an2 h2 trivial))))) ?_
    exact joinDone ((((byteAt p0 0) : Nat) : Int) == 45) hm .refl
end Go.Dm


/- Go functions compute their models, printed by a program. -/
namespace Go.Dm
open Go.Proofs
set_option linter.unusedVariables false
abbrev c154e1 (p0 : Tree) (p1 : Int) := (p0.nodes.getD (Int.toNat p1) dNode)
abbrev c154e2 (p0 : Tree) (p1 : Int) : Nat × Obj := (1040, bx (pm (encNode (c154e1 p0 p1))))
abbrev c154e3 (p0 : Tree) : Nat × Obj := (1016, bx (pm (encTree p0)))
abbrev c154e4 (p0 : Tree) (k1 : Int) := (p0.nodes.getD (Int.toNat k1) dNode)
theorem node_ref5Spec (p0 : Tree) (p1 : Int) (RES : Bool) (hm : node_ref5 p0 p1 = some RES) : Spec Tryz.prog 154 [.p (.agg (encTree p0)), pI p1] [] (pB RES) [] [] := by
 unfold node_ref5 at hm
 refine SO Tryz.func154 rfl rfl [(0, .p (.agg (encTree p0))), (1, pI p1)] [] ?_
 intro cx hnt
 refine DW.seq (RK hnt (nn 2 []) [(1, pI p1), (2, rr 1016)] [(c154e3 p0)] trivial ?_)
 obtain ⟨g1, hm⟩ := guard_open hm
 refine DW.seq (RD hnt (nn 7 []) [] [(5, rr 1040)] [] [(c154e2 p0 p1)] (an g1.1 (an g1.2 trivial)) ?_)
 refine DW.seq (DW.seq (DW.regJ (sl2 := [(1, pI p1), (2, rr 1016), (5, rr 1040), (40, pB (((((((c154e1 p0 p1).kind != 0) && ((c154e1 p0 p1).kind != 1)) || (decide ((c154e1 p0 p1).control < 0))) || (decide ((c154e1 p0 p1).control > 31))) || (decide ((c154e1 p0 p1).owner < 0))) || (decide ((c154e1 p0 p1).owner > 1048576))))]) (ob2 := [(c154e3 p0), (c154e2 p0 p1)]) ?_ ?_))
 ·rcases bt ((c154e1 p0 p1).kind != 0) with h2 | h2
  ·rcases bt ((c154e1 p0 p1).kind != 1) with h3 | h3
   ·exact RT hnt (nn 7 (pT :: .no :: sk 3 (pT :: .no :: sk 3 (pT :: .no :: sk 3 (pT :: .no :: sk 3 (pT :: [])))))) [(40, pB true)] (an4 h2 (an4 h3 (an6 tt (an6 tt trivial)))) (by kernel_rfl) (.cons rfl (.of_eq (by rw [h2, h3]; try rfl)) .nil)
   ·rcases bt (decide ((c154e1 p0 p1).control < 0)) with h4 | h4
    ·exact RT hnt (nn 7 (pT :: nn 4 (pF :: .no :: sk 3 (pT :: .no :: sk 3 (pT :: .no :: sk 3 (pT :: [])))))) [(40, pB true)] (an4 h2 (an4 h3 (an4 h4 (an2 tt (an6 tt trivial))))) (by kernel_rfl) (.cons rfl (.of_eq (by rw [h2, h3, h4]; try rfl)) .nil)
    ·rcases bt (decide ((c154e1 p0 p1).control > 31)) with h5 | h5
     ·exact RT hnt (nn 7 (pT :: nn 4 (pF :: nn 4 (pF :: .no :: sk 3 (pT :: .no :: sk 3 (pT :: [])))))) [(40, pB true)] (an4 h2 (an4 h3 (an4 h4 (an4 h5 (an4 tt trivial))))) (by kernel_rfl) (.cons rfl (.of_eq (by rw [h2, h3, h4, h5]; try rfl)) .nil)
     ·rcases bt (decide ((c154e1 p0 p1).owner < 0)) with h6 | h6
      ·exact RT hnt (nn 7 (pT :: nn 4 (pF :: nn 4 (pF :: nn 4 (pF :: .no :: sk 3 (pT :: [])))))) [(40, pB true)] (an4 h2 (an4 h3 (an4 h4 (an4 h5 (an4 h6 trivial))))) (by kernel_rfl) (.cons rfl (.of_eq (by rw [h2, h3, h4, h5, h6]; try rfl)) .nil)
      ·exact RT hnt (nn 7 (pT :: nn 4 (pF :: nn 4 (pF :: nn 4 (pF :: nn 4 (pF :: [])))))) [(40, pB (decide ((c154e1 p0 p1).owner > 1048576)))] (an4 h2 (an4 h3 (an4 h4 (an4 h5 (an4 h6 trivial))))) (by kernel_rfl) (.cons rfl (.of_eq (by rw [h2, h3, h4, h5, h6]; try rfl)) .nil)
  ·rcases bt (decide ((c154e1 p0 p1).control < 0)) with h7 | h7
   ·exact RT hnt (nn 4 (sk 3 (pF :: nn 4 (pF :: .no :: sk 3 (pT :: .no :: sk 3 (pT :: .no :: sk 3 (pT :: []))))))) [(40, pB true)] (an4 h2 (an4 ff (an4 h7 (an2 tt (an6 tt trivial))))) (by kernel_rfl) (.cons rfl (.of_eq (by rw [h2, h7]; try rfl)) .nil)
   ·rcases bt (decide ((c154e1 p0 p1).control > 31)) with h8 | h8
    ·exact RT hnt (nn 4 (sk 3 (pF :: nn 4 (pF :: nn 4 (pF :: .no :: sk 3 (pT :: .no :: sk 3 (pT :: []))))))) [(40, pB true)] (an4 h2 (an4 ff (an4 h7 (an4 h8 (an4 tt trivial))))) (by kernel_rfl) (.cons rfl (.of_eq (by rw [h2, h7, h8]; try rfl)) .nil)
    ·rcases bt (decide ((c154e1 p0 p1).owner < 0)) with h9 | h9
     ·exact RT hnt (nn 4 (sk 3 (pF :: nn 4 (pF :: nn 4 (pF :: nn 4 (pF :: .no :: sk 3 (pT :: []))))))) [(40, pB true)] (an4 h2 (an4 ff (an4 h7 (an4 h8 (an4 h9 trivial))))) (by kernel_rfl) (.cons rfl (.of_eq (by rw [h2, h7, h8, h9]; try rfl)) .nil)
     ·exact RT hnt (nn 4 (sk 3 (pF :: nn 4 (pF :: nn 4 (pF :: nn 4 (pF :: nn 4 (pF :: []))))))) [(40, pB (decide ((c154e1 p0 p1).owner > 1048576)))] (an4 h2 (an4 ff (an4 h7 (an4 h8 (an4 h9 trivial))))) (by kernel_rfl) (.cons rfl (.of_eq (by rw [h2, h7, h8, h9]; try rfl)) .nil)
 ·refine condM hm ?_ ?_
  ·intro h10 hm
   refine DW.seq (RK hnt (.no :: []) [(4, pB false)] [] trivial ?_)
   refine DW.ret ?_
   obtain rfl := Option.some.inj hm
   exact retK [] [] (pB false)
  ·intro h10 hm
   refine DW.skip ?_
   refine DW.seq (DW.seq (RD hnt (nn 2 []) [40] [(42, pB (p1 == 0))] [] [] trivial ?_))
   refine condM hm ?_ ?_
   ·intro h11 hm
    refine DW.seq (DW.regJ (sl2 := [(4, pB (((((c154e1 p0 p1).id == 1) && ((c154e1 p0 p1).parent == 0)) && (beqS (c154e1 p0 p1).name ByteArray.empty)) && ((c154e1 p0 p1).kind == 0)))]) (ob2 := []) ?_ ?_)
    ·rcases bt ((c154e1 p0 p1).id == 1) with h12 | h12
     ·rcases bt ((c154e1 p0 p1).parent == 0) with h13 | h13
      ·rcases bt (beqS (c154e1 p0 p1).name ByteArray.empty) with h14 | h14
       ·exact RT hnt (nn 7 (pT :: nn 4 (pT :: nn 4 (pT :: .no :: [])))) [(4, pB ((c154e1 p0 p1).kind == 0))] (an4 h12 (an4 h13 (an4 h14 trivial))) (by kernel_rfl) (.cons rfl (.of_eq (by rw [h12, h13, h14]; try rfl)) .nil)
       ·exact RT hnt (nn 7 (pT :: nn 4 (pT :: .no :: sk 3 (pF :: .no :: [])))) [(4, pB false)] (an4 h12 (an4 h13 (an4 h14 trivial))) (by kernel_rfl) (.cons rfl (.of_eq (by rw [h12, h13, h14]; try rfl)) .nil)
      ·exact RT hnt (nn 7 (pT :: .no :: sk 3 (pF :: .no :: sk 3 (pF :: .no :: [])))) [(4, pB false)] (an4 h12 (an4 h13 (an4 ff trivial))) (by kernel_rfl) (.cons rfl (.of_eq (by rw [h12, h13]; try rfl)) .nil)
     ·exact RT hnt (nn 4 (sk 3 (pF :: .no :: sk 3 (pF :: .no :: sk 3 (pF :: .no :: []))))) [(4, pB false)] (an4 h12 (an2 ff (an6 ff trivial))) (by kernel_rfl) (.cons rfl (.of_eq (by rw [h12]; try rfl)) .nil)
    ·refine DW.ret ?_
     obtain rfl := Option.some.inj hm
     exact retK [] [] (pB (((((c154e1 p0 p1).id == 1) && ((c154e1 p0 p1).parent == 0)) && (beqS (c154e1 p0 p1).name ByteArray.empty)) && ((c154e1 p0 p1).kind == 0)))
   ·intro h11 hm
    refine DW.skip ?_
    obtain ⟨g15, hm⟩ := guard_open hm
    refine DW.seq (DW.seq ?_)
    refine DW.join (ι := Bool) (fun (y1 : Bool) => mkSt [(1, pI p1), (2, rr 1016), (5, rr 1040), (76, pB y1)] [(c154e3 p0), (c154e2 p0 p1)]) (fun y1 => (node_ref5J1 p0 p1) y1 = some RES) ?_ ?_
    ·intro y1 hm
     unfold node_ref5J1 at hm
     refine condM hm ?_ ?_
     ·intro h18 hm
      refine DW.seq (RK hnt (.no :: []) [(4, pB false)] [] trivial ?_)
      refine DW.ret ?_
      obtain rfl := Option.some.inj hm
      exact retK [] [] (pB false)
     ·intro h18 hm
      refine DW.skip ?_
      refine DW.seq (RD hnt (.no :: []) [76] [(6, pB false)] [] [] trivial ?_)
      refine DW.seq (DW.seq (RD hnt (.no :: []) [] [(7, pI 0)] [] [] trivial ?_))
      refine DW.block ?_
      obtain ⟨hc1, hm⟩ := guard_open hm
      refine DW.forO (fun (k1 : Int) (s1 : Bool) => mkSt [(1, pI p1), (2, rr 1016), (5, rr 1040), (6, pB s1), (7, pI k1)] [(c154e3 p0), (c154e2 p0 p1)]) (lo := 0) (hi := p1) hm Conv.eqK ?_
      intro k1 s1 n1 hk1 hs1 he1
      refine DW.seq (DW.seq (RD hnt (nn 3 []) [] [(79, pB (decide (k1 < p1)))] [] [] trivial ?_))
      refine condK (decide (k1 < p1)) ?_ ?_
      ·intro h32
       have hlt1 : k1 < p1 := by have := of_decide_eq_true h32; omega
       have hm := hs1 hlt1
       unfold node_ref5L1 at hm
       refine DW.skip ?_
       refine DW.seq (DW.block ?_)
       refine DW.seq ?_
       refine DW.join (ι := Bool) (fun (y5 : Bool) => mkSt [(1, pI p1), (2, rr 1016), (5, rr 1040), (6, pB y5), (7, pI k1)] [(c154e3 p0), (c154e2 p0 p1)]) (fun y5 => (node_ref5J5 p0 p1 k1 n1) y5 = some RES) ?_ ?_
       ·intro y5 hm
        unfold node_ref5J5 at hm
        obtain ⟨g35, hm⟩ := guard_open hm
        refine DW.seq ?_
        refine DW.join (ι := Bool) (fun (y6 : Bool) => mkSt [(1, pI p1), (2, rr 1016), (5, rr 1040), (6, pB y5), (7, pI k1), (113, pB y6)] [(c154e3 p0), (c154e2 p0 p1)]) (fun y6 => (node_ref5J6 n1 y5) y6 = some RES) ?_ ?_
        ·intro y6 hm
         unfold node_ref5J6 at hm
         refine condM hm ?_ ?_
         ·intro h38 hm
          refine DW.seq (RK hnt (.no :: []) [(4, pB false)] [] trivial ?_)
          refine DW.ret ?_
          obtain rfl := Option.some.inj hm
          exact retK [] [] (pB false)
         ·intro h38 hm
          refine DW.skip ?_
          refine DW.done ?_
          show DW _ _ _ _ _
          refine RD hnt (nn 3 []) [113] [(7, pI (w64 (k1 + 1)))] [] [] trivial ?_
          exact joinDone y5 ⟨hlt1, hm⟩ (Conv.tp [(7, pI (w64 (k1 + 1)))] [] (by kernel_rfl) (.cons rfl (.of_eq (congrArg pI (w64_for (lo := 0) (hi := p1) (by omega) hk1 hlt1 (by omega)))) .nil) .nil)
        ·rcases bt ((c154e4 p0 k1).parent == (c154e1 p0 p1).parent) with h36 | h36
         ·replace hm := if_t h36 hm
          obtain ⟨g37, hm⟩ := guard_open hm
          refine RD hnt (nn 19 (pT :: [])) [] [(113, pB (beqS (c154e4 p0 k1).name (c154e1 p0 p1).name))] [] [] (an g35.1 (an g35.2 (an4 h36 (an g37.1 (an g37.2 (an6 h36 trivial)))))) ?_
          exact joinDone (beqS (c154e4 p0 k1).name (c154e1 p0 p1).name) hm Conv.eqK
         ·replace hm := if_f h36 hm
          refine RD hnt (nn 10 (sk 9 (pF :: []))) [] [(113, pB false)] [] [] (an g35.1 (an g35.2 (an4 h36 (an6 h36 trivial)))) ?_
          exact joinDone false hm Conv.eqK
       ·rcases bt s1 with h33 | h33
        ·replace hm := if_t h33 hm
         refine RD hnt (nn 2 (sk 9 (pT :: .no :: []))) [79] [(6, pB true)] [] [] (an4 h33 (an6 h33 trivial)) ?_
         exact joinDone true hm Conv.eqK
        ·replace hm := if_f h33 hm
         obtain ⟨g34, hm⟩ := guard_open hm
         refine RD hnt (nn 11 (pF :: .no :: [])) [79] [(6, pB ((c154e4 p0 k1).id == (c154e1 p0 p1).parent))] [] [] (an4 h33 (an g34.1 (an g34.2 (an6 h33 trivial)))) ?_
         exact joinDone ((c154e4 p0 k1).id == (c154e1 p0 p1).parent) hm Conv.eqK
      ·intro h32
       have hge1 : ¬ k1 < p1 := by have := of_decide_eq_false h32; omega
       have hm := he1 hge1
       unfold node_ref5D1 at hm
       refine DW.exit ?_
       refine joinQ_exit ?_
       refine KQ_exit ?_
       refine blockQ_exit ?_
       show DW _ _ _ _ _
       refine DW.seq (RK hnt (nn 2 []) [(4, pB s1)] [] trivial ?_)
       refine DW.ret ?_
       obtain rfl := Option.some.inj hm
       exact retK [] [] (pB s1)
    ·rcases bt (decide ((c154e1 p0 p1).id ≤ (p0.nodes.getD (Int.toNat (w64 (p1 - 1))) dNode).id)) with h16 | h16
     ·replace hm := if_t h16 hm
      refine RD hnt (nn 11 (sk 4 (pT :: []))) [42] [(76, pB true)] [] [] (an g15.1 (an g15.2 (an5 h16 trivial))) ?_
      exact joinDone true hm Conv.eqK
     ·replace hm := if_f h16 hm
      obtain ⟨r17, hr17, hm⟩ := bind_open hm
      refine RD hnt (nn 13 (.call 163 [] true (pB r17) [] [] :: .no :: pF :: [])) [42] [(76, pB (!r17))] [] [] (an g15.1 (an g15.2 (an3 h16 (an (Valid_ref1Spec (c154e1 p0 p1).name r17 hr17) (an2 h16 trivial))))) ?_
      exact joinDone (!r17) hm Conv.eqK

abbrev c89e1 (p0 : Tree) : Nat × Obj := (1016, bx (pm (encTree p0)))
abbrev c89e2 (p0 : Tree) : Nat × MV := (6, pI (w64 (((p0.nodes.length : Nat) : Int) - 1)))
theorem up_ref5Spec (p0 : Tree) (p1 : Int) (RES : List Int) (hm : up_ref5 p0 p1 = some RES) : Spec Tryz.prog 89 [.p (.agg (encTree p0)), pI p1] [] (ow 0 RES.length) [] [roI RES] := by
 unfold up_ref5 at hm
 refine SO Tryz.func89 rfl rfl [(0, .p (.agg (encTree p0))), (1, pI p1)] [] ?_
 intro cx hnt
 refine DW.seq (RK hnt (nn 2 []) [(1, pI p1), (2, rr 1016)] [(c89e1 p0)] trivial ?_)
 refine DW.seq (RD hnt (.no :: []) [] [(5, .p (.sl .nil 0 0 (fun _ => [])))] [] [] trivial ?_)
 refine DW.seq (DW.seq (RD hnt (nn 5 []) [] [(c89e2 p0)] [] [] trivial ?_))
 refine DW.block ?_
 refine DW.whileO (fun (s1 : (List Int) × Int × Int) => mkSt [(1, pI s1.2.1), (2, rr 1016), (5, ow 1208 s1.1.length), (6, pI s1.2.2)] [(c89e1 p0), (1208, ob0 (roI s1.1))]) hm (Conv.trans (τ := mkSt [(1, pI p1), (2, rr 1016), (5, .p (.sl .nil 0 0 (fun _ => []))), (c89e2 p0)] [(c89e1 p0)]) Conv.eqK (Conv.trans (τ := mkSt [(1, pI p1), (2, rr 1016), (5, ow 1208 0), (c89e2 p0)] ((1208, ⟨0, .row 1 0 (elems encI 0 [])⟩) :: [(c89e1 p0)])) (Conv.adopt 1208 1 (elems encI 0 []) rfl rfl (.cons (.one (.rfl _)) (.cons (.one (.rfl _)) (.cons (.one (.nil _ _)) (.cons (.one (.rfl _)) (.rfl _))))) (.rfl _)) Conv.t0)) ?_
 intro s1 n1 hm
 unfold up_ref5L1 at hm
 refine DW.seq (DW.seq (RD hnt (nn 2 []) [] [(12, pB (decide (s1.2.2 ≥ 0)))] [] [] trivial ?_))
 refine condM hm ?_ ?_
 ·intro h5 hm
  refine DW.skip ?_
  refine DW.seq ?_
  refine DW.join (ι := (List Int) × Int) (fun (y2 : (List Int) × Int) => mkSt [(1, pI y2.2), (2, rr 1016), (5, ow 1208 y2.1.length), (6, pI s1.2.2)] [(c89e1 p0), (1208, ob0 (roI y2.1))]) (fun y2 => (up_ref5J2 s1 n1) y2 = some RES) ?_ ?_
  ·intro y2 hm
   unfold up_ref5J2 at hm
   refine RD hnt (nn 3 []) [] [(6, pI (w64 (s1.2.2 - 1)))] [] [] trivial ?_
   exact joinDone (y2.1, y2.2, (w64 (s1.2.2 - 1))) hm Conv.eqK
  ·refine DW.block ?_
   obtain ⟨g6, hm⟩ := guard_open hm
   refine DW.seq (RD hnt (nn 8 []) [12] [(22, pB ((p0.nodes.getD (Int.toNat s1.2.2) dNode).id == s1.2.1))] [] [] (an g6.1 (an g6.2 trivial)) ?_)
   refine condM hm ?_ ?_
   ·intro h7 hm
    obtain ⟨g8, hm⟩ := guard_open hm
    refine DW.seq (RN hnt (nn 5 []) [(2, rr 1016), (5, ow 1208 (s1.1 ++ [s1.2.1]).length), (6, pI s1.2.2)] [(c89e1 p0), (1208, ob0 (roI (s1.1 ++ [s1.2.1])))] [(5, ow 1208 (s1.1.length + 1))] [(1208, .row 1 (s1.1.length + 1) (catF s1.1.length (elI s1.1) (cut 1 [vi s1.2.1])))] (an (by omega : (s1.1.length + 1) * 8 ≤ 140737488355328) trivial) (by kernel_rfl) (.cons rfl (MLe.ownLen (enc := encI) (d := 0) (f := (catF s1.1.length (elI s1.1) (cut 1 [vi s1.2.1]))) (RowIs.cat RowIs.elems (RowIs.lit (enc := encI) (d := 0) (n := 1) (f := (cut 1 [vi s1.2.1])) [s1.2.1] rfl (fun | 0, _ => rfl | n + 1, h => absurd h (by omega))))) .nil) (.cons rfl (BLe.typed (RowIs.cat RowIs.elems (RowIs.lit (enc := encI) (d := 0) (n := 1) (f := (cut 1 [vi s1.2.1])) [s1.2.1] rfl (fun | 0, _ => rfl | n + 1, h => absurd h (by omega))))) .nil) ?_)
    obtain ⟨g9, hm⟩ := guard_open hm
    refine RD hnt (nn 7 []) [] [(1, pI (p0.nodes.getD (Int.toNat s1.2.2) dNode).parent)] [] [] (an g9.1 (an g9.2 trivial)) ?_
    exact blockDone ((s1.1 ++ [s1.2.1]), (p0.nodes.getD (Int.toNat s1.2.2) dNode).parent) hm Conv.eqK
   ·intro h7 hm
    refine DW.skip ?_
    exact blockDone (s1.1, s1.2.1) hm Conv.t0
 ·intro h5 hm
  refine DW.exit ?_
  refine joinQ_exit ?_
  refine KQ_exit ?_
  refine blockQ_exit ?_
  show DW _ _ _ _ _
  refine DW.seq (RK hnt (nn 2 []) [(4, ow 1208 s1.1.length)] [(1208, ob0 (roI s1.1))] trivial ?_)
  refine DW.ret ?_
  obtain rfl := Option.some.inj hm
  exact retK [roI s1.1] [1208] (ow 0 s1.1.length)

abbrev c110e1 (p0 : Tree) : Nat × MV := (3, pI ((p0.nodes.length : Nat) : Int))
theorem Check_ref5Spec (p0 : Tree) (RES : Bool) (hm : Check_ref5 p0 = some RES) : Spec Tryz.prog 110 [.p (.agg (encTree p0))] [] (pB RES) [] [] := by
 unfold Check_ref5 at hm
 refine SO Tryz.func110 rfl rfl [(0, .p (.agg (encTree p0)))] [] ?_
 intro cx hnt
 refine DW.seq (RK hnt (nn 2 []) [(1, rr 1008)] [(1008, bx (pm (encTree p0)))] trivial ?_)
 refine DW.seq (RD hnt (nn 4 []) [] [(c110e1 p0)] [] [] trivial ?_)
 refine DW.seq (DW.seq (DW.regJ (sl2 := [(1, rr 1008), (c110e1 p0), (14, pB ((decide (((p0.nodes.length : Nat) : Int) < 1)) || (decide (((p0.nodes.length : Nat) : Int) > 64))))]) (ob2 := [(1008, bx (pm (encTree p0)))]) ?_ ?_))
 ·rcases bt (decide (((p0.nodes.length : Nat) : Int) < 1)) with h1 | h1
  ·exact RT hnt (nn 3 (sk 2 (pT :: []))) [(14, pB true)] (an3 h1 trivial) (by kernel_rfl) (.cons rfl (.of_eq (by rw [h1]; try rfl)) .nil)
  ·exact RT hnt (nn 5 (pF :: [])) [(14, pB (decide (((p0.nodes.length : Nat) : Int) > 64)))] (an3 h1 trivial) (by kernel_rfl) (.cons rfl (.of_eq (by rw [h1]; try rfl)) .nil)
 ·refine condM hm ?_ ?_
  ·intro h2 hm
   refine DW.seq (RK hnt (.no :: []) [(2, pB false)] [] trivial ?_)
   refine DW.ret ?_
   obtain rfl := Option.some.inj hm
   exact retK [] [] (pB false)
  ·intro h2 hm
   refine DW.skip ?_
   refine DW.seq (DW.seq (RD hnt (.no :: []) [14] [(4, pI 0)] [] [] trivial ?_))
   refine DW.block ?_
   obtain ⟨hc1, hm⟩ := guard_open hm
   refine DW.rangeO (fun (k1 : Nat) (s1 : Unit) => mkSt [(1, rr 1008), (c110e1 p0), (4, pI ((k1 : Nat) : Int))] [(1008, bx (pm (encTree p0)))]) dNode hm Conv.eqK ?_
   intro k1 s1 n1 hk1 hs1 he1
   refine DW.seq (DW.seq (RD hnt (nn 3 []) [] [(17, pB (decide (((k1 : Nat) : Int) < ((p0.nodes.length : Nat) : Int))))] [] [] trivial ?_))
   refine condK (decide (((k1 : Nat) : Int) < ((p0.nodes.length : Nat) : Int))) ?_ ?_
   ·intro h32
    have hlt1 : k1 < p0.nodes.length := by have := of_decide_eq_true h32; omega
    have hm := hs1 hlt1
    unfold Check_ref5L1 at hm
    refine DW.skip ?_
    refine DW.seq (DW.block ?_)
    obtain ⟨r33, hr33, hm⟩ := bind_open hm
    refine DW.seq (RD hnt (nn 2 (.call 154 [] true (pB r33) [] [] :: .no :: [])) [17] [(23, pB (!r33))] [] [] (an (node_ref5Spec p0 ((k1 : Nat) : Int) r33 hr33) trivial) ?_)
    refine condM hm ?_ ?_
    ·intro h34 hm
     refine DW.seq (RK hnt (.no :: []) [(2, pB false)] [] trivial ?_)
     refine DW.ret ?_
     obtain rfl := Option.some.inj hm
     exact retK [] [] (pB false)
    ·intro h34 hm
     refine DW.skip ?_
     refine DW.done ?_
     show DW _ _ _ _ _
     refine RD hnt (nn 3 []) [23] [(4, pI (w64 (((k1 : Nat) : Int) + 1)))] [] [] trivial ?_
     exact joinDone () ⟨hlt1, hm⟩ (Conv.tp [(4, pI (w64 (((k1 : Nat) : Int) + 1)))] [] (by kernel_rfl) (.cons rfl (.of_eq (congrArg pI (w64_succ hlt1 hc1))) .nil) .nil)
   ·intro h32
    have hge1 : ¬ k1 < p0.nodes.length := by have := of_decide_eq_false h32; omega
    have hm := he1 hge1
    unfold Check_ref5D1 at hm
    refine DW.exit ?_
    refine joinQ_exit ?_
    refine KQ_exit ?_
    refine blockQ_exit ?_
    show DW _ _ _ _ _
    refine DW.seq (DW.seq (RD hnt (.no :: []) [4, 17] [(5, pI 0)] [] [] trivial ?_))
    refine DW.block ?_
    obtain ⟨hc4, hm⟩ := guard_open hm
    refine DW.rangeO (fun (k4 : Nat) (s4 : Unit) => mkSt [(1, rr 1008), (c110e1 p0), (5, pI ((k4 : Nat) : Int))] [(1008, bx (pm (encTree p0)))]) dNode hm Conv.eqK ?_
    intro k4 s4 n4 hk4 hs4 he4
    refine DW.seq (DW.seq (RD hnt (nn 3 []) [] [(26, pB (decide (((k4 : Nat) : Int) < ((p0.nodes.length : Nat) : Int))))] [] [] trivial ?_))
    refine condK (decide (((k4 : Nat) : Int) < ((p0.nodes.length : Nat) : Int))) ?_ ?_
    ·intro h49
     have hlt4 : k4 < p0.nodes.length := by have := of_decide_eq_true h49; omega
     have hm := hs4 hlt4
     unfold Check_ref5L4 at hm
     refine DW.skip ?_
     refine DW.seq (DW.block ?_)
     obtain ⟨r50, hr50, hm⟩ := bind_open hm
     refine DW.seq (RD hnt (nn 7 (.call 89 [] true (ow 0 r50.length) [] [roI r50] :: nn 2 [])) [26] [(38, pB (decide (((r50.length : Nat) : Int) > 9)))] [] [] (an (nn0 k4) (an (ltc hlt4) (an (up_ref5Spec p0 (p0.nodes.getD k4 (default : Node)).id r50 hr50) trivial))) ?_)
     refine condM hm ?_ ?_
     ·intro h51 hm
      refine DW.seq (RK hnt (.no :: []) [(2, pB false)] [] trivial ?_)
      refine DW.ret ?_
      obtain rfl := Option.some.inj hm
      exact retK [] [] (pB false)
     ·intro h51 hm
      refine DW.skip ?_
      refine DW.done ?_
      show DW _ _ _ _ _
      refine RD hnt (nn 3 []) [38] [(5, pI (w64 (((k4 : Nat) : Int) + 1)))] [] [] trivial ?_
      exact joinDone () ⟨hlt4, hm⟩ (Conv.tp [(5, pI (w64 (((k4 : Nat) : Int) + 1)))] [] (by kernel_rfl) (.cons rfl (.of_eq (congrArg pI (w64_succ hlt4 hc4))) .nil) .nil)
    ·intro h49
     have hge4 : ¬ k4 < p0.nodes.length := by have := of_decide_eq_false h49; omega
     have hm := he4 hge4
     unfold Check_ref5D4 at hm
     refine DW.exit ?_
     refine joinQ_exit ?_
     refine KQ_exit ?_
     refine blockQ_exit ?_
     show DW _ _ _ _ _
     obtain ⟨g52, hm⟩ := guard_open hm
     refine DW.seq ?_
     refine DW.join (ι := Bool) (fun (y7 : Bool) => mkSt [(2, pB y7)] []) (fun y7 => Check_ref5J7 y7 = some RES) ?_ ?_
     ·intro y7 hm
      unfold Check_ref5J7 at hm
      refine DW.ret ?_
      obtain rfl := Option.some.inj hm
      exact retK [] [] (pB y7)
     ·rcases bt (decide (p0.next > (p0.nodes.getD (Int.toNat (w64 (((p0.nodes.length : Nat) : Int) - 1))) dNode).id)) with h53 | h53
      ·replace hm := if_t h53 hm
       refine RK hnt (nn 14 (pT :: .no :: [])) [(2, pB (decide (p0.next ≤ 2147483648)))] [] (an g52.1 (an g52.2 (an4 h53 trivial))) ?_
       exact joinDone (decide (p0.next ≤ 2147483648)) hm .refl
      ·replace hm := if_f h53 hm
       refine RK hnt (nn 11 (sk 3 (pF :: .no :: []))) [(2, pB false)] [] (an g52.1 (an g52.2 (an4 h53 trivial))) ?_
       exact joinDone false hm .refl

theorem Find_ref5Spec (p0 : Tree) (p1 : Int) (RES : Node × Bool) (hm : Find_ref5 p0 p1 = some RES) : Spec Tryz.prog 135 [.p (.agg (encTree p0)), pI p1] [] (.p (.tup [.agg (encNode RES.1), vb RES.2])) [] [] := by
 unfold Find_ref5 at hm
 refine SO Tryz.func135 rfl rfl [(0, .p (.agg (encTree p0))), (1, pI p1)] [] ?_
 intro cx hnt
 refine DW.seq (RK hnt (nn 3 []) [(1, pI p1), (2, rr 1016), (4, rr 1032)] [(1016, bx (pm (encTree p0))), (1032, bx [pI 0, pI 0, pS ByteArray.empty, pI 0, pI 0, pI 0])] trivial ?_)
 obtain ⟨r1, hr1, hm⟩ := bind_open hm
 refine DW.seq (DW.seq (RD hnt (.no :: .call 110 [] true (pB r1) [] [] :: .no :: []) [] [(9, pB (!r1))] [] [] (an (Check_ref5Spec p0 r1 hr1) trivial) ?_))
 refine condM hm ?_ ?_
 ·intro h2 hm
  refine DW.seq (RD hnt (nn 3 []) [1, 2, 9] [(5, pB false)] [1016] [] trivial ?_)
  refine DW.ret ?_
  obtain rfl := Option.some.inj hm
  exact retK [] [] (.p (.tup [.agg [vi 0, vi 0, vs ByteArray.empty, vi 0, vi 0, vi 0], vb false]))
 ·intro h2 hm
  refine DW.skip ?_
  refine DW.seq (DW.seq (RD hnt (.no :: []) [9] [(6, pI 0)] [] [] trivial ?_))
  refine DW.block ?_
  obtain ⟨hc1, hm⟩ := guard_open hm
  refine DW.rangeO (fun (k1 : Nat) (s1 : Unit) => mkSt [(1, pI p1), (2, rr 1016), (4, rr 1032), (6, pI ((k1 : Nat) : Int))] [(1016, bx (pm (encTree p0))), (1032, bx [pI 0, pI 0, pS ByteArray.empty, pI 0, pI 0, pI 0])]) dNode hm Conv.eqK ?_
  intro k1 s1 n1 hk1 hs1 he1
  refine DW.seq (DW.seq (RD hnt (nn 5 []) [] [(15, pB (decide (((k1 : Nat) : Int) < ((p0.nodes.length : Nat) : Int))))] [] [] trivial ?_))
  refine condK (decide (((k1 : Nat) : Int) < ((p0.nodes.length : Nat) : Int))) ?_ ?_
  ·intro h11
   have hlt1 : k1 < p0.nodes.length := by have := of_decide_eq_true h11; omega
   have hm := hs1 hlt1
   unfold Find_ref5L1 at hm
   refine DW.skip ?_
   refine DW.seq (DW.block ?_)
   refine DW.seq (RD hnt (nn 8 []) [15] [(25, pB ((p0.nodes.getD k1 (default : Node)).id == p1))] [] [] (an (nn0 k1) (an (ltc hlt1) trivial)) ?_)
   refine condM hm ?_ ?_
   ·intro h12 hm
    refine DW.seq (RK hnt (nn 7 []) [(4, rr 1032), (5, pB true)] [(1032, bx (pm (encNode (p0.nodes.getD k1 (default : Node)))))] (an (nn0 k1) (an (ltc hlt1) trivial)) ?_)
    refine DW.ret ?_
    obtain rfl := Option.some.inj hm
    exact retK [] [] (.p (.tup [.agg (encNode (p0.nodes.getD k1 (default : Node))), vb true]))
   ·intro h12 hm
    refine DW.skip ?_
    refine DW.done ?_
    show DW _ _ _ _ _
    refine RD hnt (nn 3 []) [25] [(6, pI (w64 (((k1 : Nat) : Int) + 1)))] [] [] trivial ?_
    exact joinDone () ⟨hlt1, hm⟩ (Conv.tp [(6, pI (w64 (((k1 : Nat) : Int) + 1)))] [] (by kernel_rfl) (.cons rfl (.of_eq (congrArg pI (w64_succ hlt1 hc1))) .nil) .nil)
  ·intro h11
   have hge1 : ¬ k1 < p0.nodes.length := by have := of_decide_eq_false h11; omega
   have hm := he1 hge1
   unfold Find_ref5D1 at hm
   refine DW.exit ?_
   refine joinQ_exit ?_
   refine KQ_exit ?_
   refine blockQ_exit ?_
   show DW _ _ _ _ _
   refine DW.seq (RD hnt (nn 3 []) [1, 2, 6, 15] [(5, pB false)] [1016] [] trivial ?_)
   refine DW.ret ?_
   obtain rfl := Option.some.inj hm
   exact retK [] [] (.p (.tup [.agg [vi 0, vi 0, vs ByteArray.empty, vi 0, vi 0, vi 0], vb false]))

theorem Has_ref5Spec (p0 : Tree) (p1 : Int) (RES : Bool) (hm : Has_ref5 p0 p1 = some RES) : Spec Tryz.prog 88 [.p (.agg (encTree p0)), pI p1] [] (pB RES) [] [] := by
 unfold Has_ref5 at hm
 refine SO Tryz.func88 rfl rfl [(0, .p (.agg (encTree p0))), (1, pI p1)] [] ?_
 intro cx hnt
 refine DW.seq (RK hnt (nn 2 []) [(1, pI p1), (2, rr 1016)] [(1016, bx (pm (encTree p0)))] trivial ?_)
 obtain ⟨r1, hr1, hm⟩ := bind_open hm
 refine DW.seq (RK hnt (nn 2 (.call 135 [] true (.p (.tup [.agg (encNode r1.1), vb r1.2])) [] [] :: nn 6 [])) [(6, pB r1.2)] [] (an (Find_ref5Spec p0 p1 r1 hr1) trivial) ?_)
 refine DW.seq (RK hnt (nn 2 []) [(4, pB r1.2)] [] trivial ?_)
 refine DW.ret ?_
 obtain rfl := Option.some.inj hm
 exact retK [] [] (pB r1.2)

theorem Ancestors_ref5Spec (p0 : Tree) (p1 : Int) (RES : List Int) (hm : Ancestors_ref5 p0 p1 = some RES) : Spec Tryz.prog 21 [.p (.agg (encTree p0)), pI p1] [] (ow 0 RES.length) [] [roI RES] := by
 unfold Ancestors_ref5 at hm
 refine SO Tryz.func21 rfl rfl [(0, .p (.agg (encTree p0))), (1, pI p1)] [] ?_
 intro cx hnt
 refine DW.seq (RK hnt (nn 2 []) [(1, pI p1), (2, rr 1016)] [(1016, bx (pm (encTree p0)))] trivial ?_)
 obtain ⟨r1, hr1, hm⟩ := bind_open hm
 refine DW.seq (DW.seq (RD hnt (nn 2 (.call 88 [] true (pB r1) [] [] :: .no :: [])) [] [(8, pB (!r1))] [] [] (an (Has_ref5Spec p0 p1 r1 hr1) trivial) ?_))
 refine condM hm ?_ ?_
 ·intro h2 hm
  refine DW.seq (RK hnt (.no :: []) [(4, .p (.sl .nil 0 0 (fun _ => [])))] [] trivial ?_)
  refine DW.conv (τ := mkSt [(4, ow 100000 0)] [(100000, ob0 (roI []))]) (Conv.trans (τ := mkSt [(4, ow 100000 0)] ((100000, ⟨0, .row 1 0 (elems encI 0 [])⟩) :: [])) (Conv.adopt 100000 1 (elems encI 0 []) rfl rfl (.cons (.one (.nil _ _)) (.rfl _)) (.rfl _)) Conv.t0) ?_
  refine DW.ret ?_
  obtain rfl := Option.some.inj hm
  exact retK [roI []] [100000] (ow 0 0)
 ·intro h2 hm
  refine DW.skip ?_
  obtain ⟨r3, hr3, hm⟩ := bind_open hm
  refine DW.seq (RK hnt (nn 2 (.call 89 [] true (ow 0 r3.length) [] [roI r3] :: .no :: [])) [(4, ow 1088 r3.length)] [(1088, ob0 (roI r3))] (an (up_ref5Spec p0 p1 r3 hr3) trivial) ?_)
  refine DW.ret ?_
  obtain rfl := Option.some.inj hm
  exact retK [roI r3] [1088] (ow 0 r3.length)

theorem Depth_ref5Spec (p0 : Tree) (p1 : Int) (RES : Int) (hm : Depth_ref5 p0 p1 = some RES) : Spec Tryz.prog 164 [.p (.agg (encTree p0)), pI p1] [] (pI RES) [] [] := by
 unfold Depth_ref5 at hm
 refine SO Tryz.func164 rfl rfl [(0, .p (.agg (encTree p0))), (1, pI p1)] [] ?_
 intro cx hnt
 refine DW.seq (RK hnt (nn 2 []) [(1, pI p1), (2, rr 1016)] [(1016, bx (pm (encTree p0)))] trivial ?_)
 obtain ⟨r1, hr1, hm⟩ := bind_open hm
 refine DW.seq (RK hnt (nn 2 (.call 21 [] true (ow 0 r1.length) [] [roI r1] :: nn 3 [])) [(4, pI (w64 (((r1.length : Nat) : Int) - 1)))] [] (an (Ancestors_ref5Spec p0 p1 r1 hr1) trivial) ?_)
 refine DW.ret ?_
 obtain rfl := Option.some.inj hm
 exact retK [] [] (pI (w64 (((r1.length : Nat) : Int) - 1)))

theorem Copy_ref5Spec (p0 : Tree) (RES : Tree) (hm : Copy_ref5 p0 = some RES) : Spec Tryz.prog 122 [.p (.agg (encTree p0))] [] (.agg [ow 0 RES.nodes.length, pI RES.next]) [] [roNode RES.nodes] := by
 unfold Copy_ref5 at hm
 refine SO Tryz.func122 rfl rfl [(0, .p (.agg (encTree p0)))] [] ?_
 intro cx hnt
 refine DW.seq (RK hnt (nn 2 []) [(1, rr 1008), (2, rr 1016)] [(1008, bx (pm (encTree p0))), (1016, bx [.p (.sl .nil 0 0 (fun _ => [])), pI 0])] trivial ?_)
 obtain ⟨g1, hm⟩ := guard_open hm
 refine DW.seq (RN hnt (nn 7 []) [(2, rr 1016)] [(1016, bx [ow 1040 p0.nodes.length, pI p0.next]), (1040, ob0 (roNode p0.nodes))] [] [(1040, .row 6 p0.nodes.length (elNode p0.nodes))] (an (by omega : p0.nodes.length * 56 ≤ 140737488355328) trivial) (by kernel_rfl) .nil (.cons rfl (BLe.typed RowIs.elems) .nil) ?_)
 refine DW.ret ?_
 obtain rfl := Option.some.inj hm
 exact retK [roNode p0.nodes] [1040] (.agg [ow 0 p0.nodes.length, pI p0.next])

abbrev c131e1 (p0 : Tree) (p1 : Int) (p2 : ByteArray) := ({ id := p0.next, parent := p1, name := p2, control := 0, kind := 0, owner := 0 } : Node)
abbrev c131e2 : Nat × Obj := (1048, bx [.p (.sl .nil 0 0 (fun _ => [])), pI 0])
abbrev c131e3 : Nat × Obj := (1048, bx [ow 100000 0, pI 0])
abbrev c131e4 (p0 : Tree) : Nat × Obj := (1024, bx (pm (encTree p0)))
theorem Add_ref5Spec (p0 : Tree) (p1 : Int) (p2 : ByteArray) (RES : Tree × Int × Int) (hm : Add_ref5 p0 p1 p2 = some RES) : Spec Tryz.prog 131 [.p (.agg (encTree p0)), pI p1, pS p2] [] (.tup [.agg [ow 0 RES.1.nodes.length, pI RES.1.next], pI RES.2.1, pI RES.2.2]) [] [roNode RES.1.nodes] := by
 unfold Add_ref5 at hm
 refine SO Tryz.func131 rfl rfl [(0, .p (.agg (encTree p0))), (1, pI p1), (2, pS p2)] [] ?_
 intro cx hnt
 refine DW.seq (RD hnt (nn 4 []) [0] [(3, rr 1024), (6, rr 1048)] [] [(c131e4 p0), (c131e2)] trivial ?_)
 obtain ⟨r1, hr1, hm⟩ := bind_open hm
 refine DW.seq (DW.seq ?_)
 refine DW.join (ι := Bool) (fun (y1 : Bool) => mkSt [(1, pI p1), (2, pS p2), (3, rr 1024), (6, rr 1048), (18, pB y1)] [(c131e4 p0), (c131e2)]) (fun y1 => (Add_ref5J1 p0 p1 p2) y1 = some RES) ?_ ?_
 ·intro y1 hm
  unfold Add_ref5J1 at hm
  refine condM hm ?_ ?_
  ·intro h4 hm
   refine DW.seq (RD hnt (nn 4 []) [1, 2, 3, 18] [(7, pI 0), (8, pI 1)] [1024] [] trivial ?_)
   refine DW.conv (τ := mkSt [(6, rr 1048), (7, pI 0), (8, pI 1)] [(c131e3), (100000, ob0 (roNode []))]) (Conv.trans (τ := mkSt [(6, rr 1048), (7, pI 0), (8, pI 1)] [(c131e2)]) Conv.eqK (Conv.trans (τ := mkSt [(6, rr 1048), (7, pI 0), (8, pI 1)] ((100000, ⟨0, .row 6 0 (elems encNode dNode [])⟩) :: [(c131e3)])) (Conv.adopt 100000 6 (elems encNode dNode []) rfl rfl (.rfl _) (.box (.cons (.nil _ _) (.cons (.rfl _) (.rfl _))) (.rfl _))) Conv.t0)) ?_
   refine DW.ret ?_
   obtain rfl := Option.some.inj hm
   exact retK [roNode []] [100000] (.tup [.agg [ow 0 0, pI 0], pI 0, pI 1])
  ·intro h4 hm
   refine DW.skip ?_
   obtain ⟨r5, hr5, hm⟩ := bind_open hm
   refine DW.seq (DW.seq (RD hnt (nn 2 (.call 88 [] true (pB r5) [] [] :: .no :: [])) [18] [(23, pB (!r5))] [] [] (an (Has_ref5Spec p0 p1 r5 hr5) trivial) ?_))
   refine condM hm ?_ ?_
   ·intro h6 hm
    refine DW.seq (RD hnt (nn 4 []) [1, 2, 3, 23] [(7, pI 0), (8, pI 4)] [1024] [] trivial ?_)
    refine DW.conv (τ := mkSt [(6, rr 1048), (7, pI 0), (8, pI 4)] [(c131e3), (100000, ob0 (roNode []))]) (Conv.trans (τ := mkSt [(6, rr 1048), (7, pI 0), (8, pI 4)] [(c131e2)]) Conv.eqK (Conv.trans (τ := mkSt [(6, rr 1048), (7, pI 0), (8, pI 4)] ((100000, ⟨0, .row 6 0 (elems encNode dNode [])⟩) :: [(c131e3)])) (Conv.adopt 100000 6 (elems encNode dNode []) rfl rfl (.rfl _) (.box (.cons (.nil _ _) (.cons (.rfl _) (.rfl _))) (.rfl _))) Conv.t0)) ?_
    refine DW.ret ?_
    obtain rfl := Option.some.inj hm
    exact retK [roNode []] [100000] (.tup [.agg [ow 0 0, pI 0], pI 0, pI 4])
   ·intro h6 hm
    refine DW.skip ?_
    refine DW.seq (DW.seq (RD hnt (.no :: []) [23] [(9, pI 0)] [] [] trivial ?_))
    refine DW.block ?_
    obtain ⟨hc1, hm⟩ := guard_open hm
    refine DW.rangeO (fun (k1 : Nat) (s1 : Unit) => mkSt [(1, pI p1), (2, pS p2), (3, rr 1024), (6, rr 1048), (9, pI ((k1 : Nat) : Int))] [(c131e4 p0), (c131e2)]) dNode hm Conv.eqK ?_
    intro k1 s1 n1 hk1 hs1 he1
    refine DW.seq (DW.seq (RD hnt (nn 5 []) [] [(29, pB (decide (((k1 : Nat) : Int) < ((p0.nodes.length : Nat) : Int))))] [] [] trivial ?_))
    refine condK (decide (((k1 : Nat) : Int) < ((p0.nodes.length : Nat) : Int))) ?_ ?_
    ·intro h29
     have hlt1 : k1 < p0.nodes.length := by have := of_decide_eq_true h29; omega
     have hm := hs1 hlt1
     unfold Add_ref5L1 at hm
     refine DW.skip ?_
     refine DW.seq (DW.block ?_)
     refine DW.seq (DW.regJ (sl2 := [(1, pI p1), (2, pS p2), (3, rr 1024), (6, rr 1048), (9, pI ((k1 : Nat) : Int)), (49, pB (((p0.nodes.getD k1 (default : Node)).parent == p1) && (beqS (p0.nodes.getD k1 (default : Node)).name p2)))]) (ob2 := [(c131e4 p0), (c131e2)]) ?_ ?_)
     ·rcases bt ((p0.nodes.getD k1 (default : Node)).parent == p1) with h30 | h30
      ·exact RT hnt (nn 17 (pT :: [])) [(49, pB (beqS (p0.nodes.getD k1 (default : Node)).name p2))] (an (nn0 k1) (an (ltc hlt1) (an4 h30 (an (nn0 k1) (an (ltc hlt1) (an5 h30 trivial)))))) (by kernel_rfl) (.cons rfl (.of_eq (by rw [h30]; try rfl)) .nil)
      ·exact RT hnt (nn 9 (sk 8 (pF :: []))) [(49, pB false)] (an (nn0 k1) (an (ltc hlt1) (an3 h30 (an6 h30 trivial)))) (by kernel_rfl) (.cons rfl (.of_eq (by rw [h30]; try rfl)) .nil)
     ·refine condM hm ?_ ?_
      ·intro h31 hm
       refine DW.seq (RD hnt (nn 4 []) [1, 2, 3, 9, 49] [(7, pI 0), (8, pI 5)] [1024] [] trivial ?_)
       refine DW.conv (τ := mkSt [(6, rr 1048), (7, pI 0), (8, pI 5)] [(c131e3), (100000, ob0 (roNode []))]) (Conv.trans (τ := mkSt [(6, rr 1048), (7, pI 0), (8, pI 5)] [(c131e2)]) Conv.eqK (Conv.trans (τ := mkSt [(6, rr 1048), (7, pI 0), (8, pI 5)] ((100000, ⟨0, .row 6 0 (elems encNode dNode [])⟩) :: [(c131e3)])) (Conv.adopt 100000 6 (elems encNode dNode []) rfl rfl (.rfl _) (.box (.cons (.nil _ _) (.cons (.rfl _) (.rfl _))) (.rfl _))) Conv.t0)) ?_
       refine DW.ret ?_
       obtain rfl := Option.some.inj hm
       exact retK [roNode []] [100000] (.tup [.agg [ow 0 0, pI 0], pI 0, pI 5])
      ·intro h31 hm
       refine DW.skip ?_
       refine DW.done ?_
       show DW _ _ _ _ _
       refine RD hnt (nn 3 []) [49] [(9, pI (w64 (((k1 : Nat) : Int) + 1)))] [] [] trivial ?_
       exact joinDone () ⟨hlt1, hm⟩ (Conv.tp [(9, pI (w64 (((k1 : Nat) : Int) + 1)))] [] (by kernel_rfl) (.cons rfl (.of_eq (congrArg pI (w64_succ hlt1 hc1))) .nil) .nil)
    ·intro h29
     have hge1 : ¬ k1 < p0.nodes.length := by have := of_decide_eq_false h29; omega
     have hm := he1 hge1
     unfold Add_ref5D1 at hm
     refine DW.exit ?_
     refine joinQ_exit ?_
     refine KQ_exit ?_
     refine blockQ_exit ?_
     show DW _ _ _ _ _
     obtain ⟨r32, hr32, hm⟩ := bind_open hm
     refine DW.seq (DW.seq ?_)
     refine DW.join (ι := Bool) (fun (y6 : Bool) => mkSt [(1, pI p1), (2, pS p2), (3, rr 1024), (6, rr 1048), (65, pB y6)] [(c131e4 p0), (c131e2)]) (fun y6 => (Add_ref5J6 p0 p1 p2) y6 = some RES) ?_ ?_
     ·intro y6 hm
      unfold Add_ref5J6 at hm
      refine condM hm ?_ ?_
      ·intro h35 hm
       refine DW.seq (RD hnt (nn 4 []) [1, 2, 3, 65] [(7, pI 0), (8, pI 7)] [1024] [] trivial ?_)
       refine DW.conv (τ := mkSt [(6, rr 1048), (7, pI 0), (8, pI 7)] [(c131e3), (100000, ob0 (roNode []))]) (Conv.trans (τ := mkSt [(6, rr 1048), (7, pI 0), (8, pI 7)] [(c131e2)]) Conv.eqK (Conv.trans (τ := mkSt [(6, rr 1048), (7, pI 0), (8, pI 7)] ((100000, ⟨0, .row 6 0 (elems encNode dNode [])⟩) :: [(c131e3)])) (Conv.adopt 100000 6 (elems encNode dNode []) rfl rfl (.rfl _) (.box (.cons (.nil _ _) (.cons (.rfl _) (.rfl _))) (.rfl _))) Conv.t0)) ?_
       refine DW.ret ?_
       obtain rfl := Option.some.inj hm
       exact retK [roNode []] [100000] (.tup [.agg [ow 0 0, pI 0], pI 0, pI 7])
      ·intro h35 hm
       refine DW.skip ?_
       obtain ⟨r36, hr36, hm⟩ := bind_open hm
       refine DW.seq (RD hnt (.no :: .call 122 [] true (.agg [ow 0 r36.nodes.length, pI r36.next]) [] [roNode r36.nodes] :: nn 2 []) [65] [(10, rr 1080)] [] [(1080, bx [ow 1544 r36.nodes.length, pI r36.next]), (1544, ob0 (roNode r36.nodes))] (an (Copy_ref5Spec p0 r36 hr36) trivial) ?_)
       obtain ⟨g37, hm⟩ := guard_open hm
       refine DW.seq (RN hnt (nn 11 []) [(3, rr 1024), (6, rr 1048), (10, rr 1080)] [(c131e4 p0), (c131e2), (1080, bx [ow 1544 (r36.nodes ++ [(c131e1 p0 p1 p2)]).length, pI r36.next]), (1544, ob0 (roNode (r36.nodes ++ [(c131e1 p0 p1 p2)])))] [] [(1080, .box [ow 1544 (r36.nodes.length + 1), pI r36.next]), (1544, .row 6 (r36.nodes.length + 1) (catF r36.nodes.length (elNode r36.nodes) (cut 6 [vi p0.next, vi p1, vs p2, vi 0, vi 0, vi 0])))] (an (by omega : (r36.nodes.length + 1) * 56 ≤ 140737488355328) trivial) (by kernel_rfl) .nil (.cons rfl (.box (.cons (MLe.ownLen (enc := encNode) (d := dNode) (f := (catF r36.nodes.length (elNode r36.nodes) (cut 6 [vi p0.next, vi p1, vs p2, vi 0, vi 0, vi 0]))) (RowIs.cat RowIs.elems (RowIs.lit (enc := encNode) (d := dNode) (n := 1) (f := (cut 6 [vi p0.next, vi p1, vs p2, vi 0, vi 0, vi 0])) [(c131e1 p0 p1 p2)] rfl (fun | 0, _ => rfl | n + 1, h => absurd h (by omega))))) (.cons .rfl .nil))) (.cons rfl (BLe.typed (RowIs.cat RowIs.elems (RowIs.lit (enc := encNode) (d := dNode) (n := 1) (f := (cut 6 [vi p0.next, vi p1, vs p2, vi 0, vi 0, vi 0])) [(c131e1 p0 p1 p2)] rfl (fun | 0, _ => rfl | n + 1, h => absurd h (by omega))))) .nil)) ?_)
       refine DW.seq (RD hnt (nn 5 []) [] [] [] [(1080, bx [ow 1544 (r36.nodes ++ [(c131e1 p0 p1 p2)]).length, pI (w64 (r36.next + 1))])] trivial ?_)
       refine DW.seq (RD hnt (nn 6 []) [3, 10] [(7, pI p0.next), (8, pI 0)] [1024, 1080] [(1048, bx [ow 1544 (r36.nodes ++ [(c131e1 p0 p1 p2)]).length, pI (w64 (r36.next + 1))])] trivial ?_)
       refine DW.ret ?_
       obtain rfl := Option.some.inj hm
       exact retK [roNode (r36.nodes ++ [(c131e1 p0 p1 p2)])] [1544] (.tup [.agg [ow 0 (r36.nodes ++ [(c131e1 p0 p1 p2)]).length, pI (w64 (r36.next + 1))], pI p0.next, pI 0])
     ·rcases bt (decide (r32 ≥ 8)) with h33 | h33
      ·replace hm := if_t h33 hm
       refine RD hnt (nn 2 (.call 164 [] true (pI r32) [] [] :: nn 2 (sk 4 (pT :: .no :: sk 3 (pT :: []))))) [9, 29] [(65, pB true)] [] [] (an (Depth_ref5Spec p0 p1 r32 hr32) (an5 h33 (an4 tt trivial))) ?_
       exact joinDone true hm Conv.eqK
      ·replace hm := if_f h33 hm
       rcases bt (decide (((p0.nodes.length : Nat) : Int) ≥ 64)) with h34 | h34
       ·replace hm := if_t h34 hm
        refine RD hnt (nn 2 (.call 164 [] true (pI r32) [] [] :: nn 6 (pF :: .no :: sk 3 (pT :: [])))) [9, 29] [(65, pB true)] [] [] (an (Depth_ref5Spec p0 p1 r32 hr32) (an5 h33 (an4 h34 trivial))) ?_
        exact joinDone true hm Conv.eqK
       ·replace hm := if_f h34 hm
        refine RD hnt (nn 2 (.call 164 [] true (pI r32) [] [] :: nn 6 (pF :: nn 4 (pF :: [])))) [9, 29] [(65, pB (decide (p0.next > 2147483647)))] [] [] (an (Depth_ref5Spec p0 p1 r32 hr32) (an5 h33 (an4 h34 trivial))) ?_
        exact joinDone (decide (p0.next > 2147483647)) hm Conv.eqK
 ·rcases bt (!r1) with h2 | h2
  ·replace hm := if_t h2 hm
   refine RD hnt (.no :: .call 110 [] true (pB r1) [] [] :: nn 2 (sk 3 (pT :: []))) [] [(18, pB true)] [] [] (an (Check_ref5Spec p0 r1 hr1) (an4 h2 trivial)) ?_
   exact joinDone true hm Conv.eqK
  ·replace hm := if_f h2 hm
   obtain ⟨r3, hr3, hm⟩ := bind_open hm
   refine RD hnt (.no :: .call 110 [] true (pB r1) [] [] :: nn 3 (.call 163 [] true (pB r3) [] [] :: .no :: pF :: [])) [] [(18, pB (!r3))] [] [] (an (Check_ref5Spec p0 r1 hr1) (an2 h2 (an (Valid_ref1Spec p2 r3 hr3) (an2 h2 trivial)))) ?_
   exact joinDone (!r3) hm Conv.eqK

theorem Bool_Dice_madeSpec (p0 : Dice) (p1 : Int) (RES : Bool × Dice) (hm : Bool_Dice_made p0 p1 = some RES) : Spec Tryz.prog 77 [rr 0, pI p1] [.box (pm (encDice p0))] (pB RES.1) [.box (pm (encDice RES.2))] [] := by
 unfold Bool_Dice_made at hm
 refine SO Tryz.func77 rfl rfl [(0, rr 0), (1, pI p1)] [(0, bx (pm (encDice p0)))] ?_
 intro cx hnt
 refine DW.seq (RD hnt (.no :: []) [] [] [] [] trivial ?_)
 obtain ⟨r1, hr1, hm⟩ := bind_open hm
 refine DW.seq (RK hnt (nn 2 (.call 19 [0] true (pI r1.1) [.box (pm (encDice r1.2))] [] :: nn 4 [])) [(4, pB (r1.1 == (w64 (p1 - 1))))] [(0, bx (pm (encDice r1.2)))] (an (Next_Dice_madeSpec p0 p1 r1 hr1) (an trivial trivial)) ?_)
 refine DW.ret ?_
 obtain rfl := Option.some.inj hm
 exact retK [.box (pm (encDice r1.2))] [] (pB (r1.1 == (w64 (p1 - 1))))

abbrev c27e1 (p0 : Tree) (k1 : Nat) := (p0.nodes.getD k1 (default : Node))
abbrev c27e2 (p0 : Tree) : Nat × Obj := (1016, bx (pm (encTree p0)))
theorem Children_ref5Spec (p0 : Tree) (p1 : Int) (RES : List Int) (hm : Children_ref5 p0 p1 = some RES) : Spec Tryz.prog 27 [.p (.agg (encTree p0)), pI p1] [] (ow 0 RES.length) [] [roI RES] := by
 unfold Children_ref5 at hm
 refine SO Tryz.func27 rfl rfl [(0, .p (.agg (encTree p0))), (1, pI p1)] [] ?_
 intro cx hnt
 refine DW.seq (RK hnt (nn 2 []) [(1, pI p1), (2, rr 1016)] [(c27e2 p0)] trivial ?_)
 obtain ⟨r1, hr1, hm⟩ := bind_open hm
 refine DW.seq (DW.seq (RD hnt (nn 2 (.call 88 [] true (pB r1) [] [] :: .no :: [])) [] [(10, pB (!r1))] [] [] (an (Has_ref5Spec p0 p1 r1 hr1) trivial) ?_))
 refine condM hm ?_ ?_
 ·intro h2 hm
  refine DW.seq (RK hnt (.no :: []) [(4, .p (.sl .nil 0 0 (fun _ => [])))] [] trivial ?_)
  refine DW.conv (τ := mkSt [(4, ow 100000 0)] [(100000, ob0 (roI []))]) (Conv.trans (τ := mkSt [(4, ow 100000 0)] ((100000, ⟨0, .row 1 0 (elems encI 0 [])⟩) :: [])) (Conv.adopt 100000 1 (elems encI 0 []) rfl rfl (.cons (.one (.nil _ _)) (.rfl _)) (.rfl _)) Conv.t0) ?_
  refine DW.ret ?_
  obtain rfl := Option.some.inj hm
  exact retK [roI []] [100000] (ow 0 0)
 ·intro h2 hm
  refine DW.skip ?_
  refine DW.seq (RD hnt (.no :: []) [10] [(5, .p (.sl .nil 0 0 (fun _ => [])))] [] [] trivial ?_)
  refine DW.seq (DW.seq (RD hnt (.no :: []) [] [(6, pI 0)] [] [] trivial ?_))
  refine DW.block ?_
  obtain ⟨hc1, hm⟩ := guard_open hm
  refine DW.rangeO (fun (k1 : Nat) (s1 : List Int) => mkSt [(1, pI p1), (2, rr 1016), (5, ow 1272 s1.length), (6, pI ((k1 : Nat) : Int))] [(c27e2 p0), (1272, ob0 (roI s1))]) dNode hm (Conv.trans (τ := mkSt [(1, pI p1), (2, rr 1016), (5, .p (.sl .nil 0 0 (fun _ => []))), (6, pI 0)] [(c27e2 p0)]) Conv.eqK (Conv.trans (τ := mkSt [(1, pI p1), (2, rr 1016), (5, ow 1272 0), (6, pI 0)] ((1272, ⟨0, .row 1 0 (elems encI 0 [])⟩) :: [(c27e2 p0)])) (Conv.adopt 1272 1 (elems encI 0 []) rfl rfl (.cons (.one (.rfl _)) (.cons (.one (.rfl _)) (.cons (.one (.nil _ _)) (.cons (.one (.rfl _)) (.rfl _))))) (.rfl _)) Conv.t0)) ?_
  intro k1 s1 n1 hk1 hs1 he1
  refine DW.seq (DW.seq (RD hnt (nn 5 []) [] [(15, pB (decide (((k1 : Nat) : Int) < ((p0.nodes.length : Nat) : Int))))] [] [] trivial ?_))
  refine condK (decide (((k1 : Nat) : Int) < ((p0.nodes.length : Nat) : Int))) ?_ ?_
  ·intro h12
   have hlt1 : k1 < p0.nodes.length := by have := of_decide_eq_true h12; omega
   have hm := hs1 hlt1
   unfold Children_ref5L1 at hm
   refine DW.skip ?_
   refine DW.seq ?_
   refine DW.join (ι := List Int) (fun (y3 : List Int) => mkSt [(1, pI p1), (2, rr 1016), (5, ow 1272 y3.length), (6, pI ((k1 : Nat) : Int))] [(c27e2 p0), (1272, ob0 (roI y3))]) (fun y3 => (Children_ref5J3 n1) y3 = some RES) ?_ ?_
   ·intro y3 hm
    unfold Children_ref5J3 at hm
    refine RD hnt (nn 3 []) [] [(6, pI (w64 (((k1 : Nat) : Int) + 1)))] [] [] trivial ?_
    exact joinDone y3 ⟨hlt1, hm⟩ (Conv.tp [(6, pI (w64 (((k1 : Nat) : Int) + 1)))] [] (by kernel_rfl) (.cons rfl (.of_eq (congrArg pI (w64_succ hlt1 hc1))) .nil) .nil)
   ·refine DW.block ?_
    refine DW.seq (RD hnt (nn 8 []) [15] [(25, pB ((c27e1 p0 k1).parent == p1))] [] [] (an (nn0 k1) (an (ltc hlt1) trivial)) ?_)
    refine condM hm ?_ ?_
    ·intro h13 hm
     obtain ⟨g14, hm⟩ := guard_open hm
     refine RN hnt (nn 10 []) [(1, pI p1), (2, rr 1016), (5, ow 1272 (s1 ++ [(c27e1 p0 k1).id]).length), (6, pI ((k1 : Nat) : Int))] [(c27e2 p0), (1272, ob0 (roI (s1 ++ [(c27e1 p0 k1).id])))] [(5, ow 1272 (s1.length + 1))] [(1272, .row 1 (s1.length + 1) (catF s1.length (elI s1) (cut 1 [vi (c27e1 p0 k1).id])))] (an (nn0 k1) (an (ltc hlt1) (an (by omega : (s1.length + 1) * 8 ≤ 140737488355328) trivial))) (by kernel_rfl) (.cons rfl (MLe.ownLen (enc := encI) (d := 0) (f := (catF s1.length (elI s1) (cut 1 [vi (c27e1 p0 k1).id]))) (RowIs.cat RowIs.elems (RowIs.lit (enc := encI) (d := 0) (n := 1) (f := (cut 1 [vi (c27e1 p0 k1).id])) [(c27e1 p0 k1).id] rfl (fun | 0, _ => rfl | n + 1, h => absurd h (by omega))))) .nil) (.cons rfl (BLe.typed (RowIs.cat RowIs.elems (RowIs.lit (enc := encI) (d := 0) (n := 1) (f := (cut 1 [vi (c27e1 p0 k1).id])) [(c27e1 p0 k1).id] rfl (fun | 0, _ => rfl | n + 1, h => absurd h (by omega))))) .nil) ?_
     exact blockDone (s1 ++ [(c27e1 p0 k1).id]) hm .refl
    ·intro h13 hm
     refine DW.skip ?_
     exact blockDone s1 hm Conv.t0
  ·intro h12
   have hge1 : ¬ k1 < p0.nodes.length := by have := of_decide_eq_false h12; omega
   have hm := he1 hge1
   unfold Children_ref5D1 at hm
   refine DW.exit ?_
   refine joinQ_exit ?_
   refine KQ_exit ?_
   refine blockQ_exit ?_
   show DW _ _ _ _ _
   refine DW.seq (RK hnt (nn 2 []) [(4, ow 1272 s1.length)] [(1272, ob0 (roI s1))] trivial ?_)
   refine DW.ret ?_
   obtain rfl := Option.some.inj hm
   exact retK [roI s1] [1272] (ow 0 s1.length)

abbrev c124e1 (p0 : Tree) (k1 : Nat) := (p0.nodes.getD k1 (default : Node))
abbrev c124e2 : Nat × Obj := (1032, bx [.p (.sl .nil 0 0 (fun _ => [])), pI 0])
abbrev c124e3 : Nat × Obj := (1032, bx [ow 100000 0, pI 0])
abbrev c124e4 (p0 : Tree) : Nat × Obj := (1016, bx (pm (encTree p0)))
theorem Remove_ref5Spec (p0 : Tree) (p1 : Int) (RES : Tree × Int) (hm : Remove_ref5 p0 p1 = some RES) : Spec Tryz.prog 124 [.p (.agg (encTree p0)), pI p1] [] (.tup [.agg [ow 0 RES.1.nodes.length, pI RES.1.next], pI RES.2]) [] [roNode RES.1.nodes] := by
 unfold Remove_ref5 at hm
 refine SO Tryz.func124 rfl rfl [(0, .p (.agg (encTree p0))), (1, pI p1)] [] ?_
 intro cx hnt
 refine DW.seq (RK hnt (nn 3 []) [(1, pI p1), (2, rr 1016), (4, rr 1032)] [(c124e4 p0), (c124e2)] trivial ?_)
 refine DW.seq (DW.block ?_)
 obtain ⟨r1, hr1, hm⟩ := bind_open hm
 refine DW.seq (RD hnt (.no :: .call 110 [] true (pB r1) [] [] :: nn 2 []) [] [(8, pB (!r1))] [] [] (an (Check_ref5Spec p0 r1 hr1) trivial) ?_)
 refine condM hm ?_ ?_
 ·intro h2 hm
  refine DW.seq (RD hnt (nn 3 []) [1, 2, 8] [(5, pI 1)] [1016] [] trivial ?_)
  refine DW.conv (τ := mkSt [(4, rr 1032), (5, pI 1)] [(c124e3), (100000, ob0 (roNode []))]) (Conv.trans (τ := mkSt [(4, rr 1032), (5, pI 1)] [(c124e2)]) Conv.eqK (Conv.trans (τ := mkSt [(4, rr 1032), (5, pI 1)] ((100000, ⟨0, .row 6 0 (elems encNode dNode [])⟩) :: [(c124e3)])) (Conv.adopt 100000 6 (elems encNode dNode []) rfl rfl (.rfl _) (.box (.cons (.nil _ _) (.cons (.rfl _) (.rfl _))) (.rfl _))) Conv.t0)) ?_
  refine DW.ret ?_
  obtain rfl := Option.some.inj hm
  exact retK [roNode []] [100000] (.tup [.agg [ow 0 0, pI 0], pI 1])
 ·intro h2 hm
  obtain ⟨r3, hr3, hm⟩ := bind_open hm
  refine DW.seq (RD hnt (nn 2 (.call 88 [] true (pB r3) [] [] :: nn 2 [])) [8] [(13, pB (!r3))] [] [] (an (Has_ref5Spec p0 p1 r3 hr3) trivial) ?_)
  refine condM hm ?_ ?_
  ·intro h4 hm
   refine DW.seq (RD hnt (nn 3 []) [1, 2, 13] [(5, pI 4)] [1016] [] trivial ?_)
   refine DW.conv (τ := mkSt [(4, rr 1032), (5, pI 4)] [(c124e3), (100000, ob0 (roNode []))]) (Conv.trans (τ := mkSt [(4, rr 1032), (5, pI 4)] [(c124e2)]) Conv.eqK (Conv.trans (τ := mkSt [(4, rr 1032), (5, pI 4)] ((100000, ⟨0, .row 6 0 (elems encNode dNode [])⟩) :: [(c124e3)])) (Conv.adopt 100000 6 (elems encNode dNode []) rfl rfl (.rfl _) (.box (.cons (.nil _ _) (.cons (.rfl _) (.rfl _))) (.rfl _))) Conv.t0)) ?_
   refine DW.ret ?_
   obtain rfl := Option.some.inj hm
   exact retK [roNode []] [100000] (.tup [.agg [ow 0 0, pI 0], pI 4])
  ·intro h4 hm
   refine DW.seq (RD hnt (nn 3 []) [13] [(19, pB (p1 == 1))] [] [] trivial ?_)
   refine condM hm ?_ ?_
   ·intro h5 hm
    refine DW.seq (RD hnt (nn 3 []) [1, 2, 19] [(5, pI 9)] [1016] [] trivial ?_)
    refine DW.conv (τ := mkSt [(4, rr 1032), (5, pI 9)] [(c124e3), (100000, ob0 (roNode []))]) (Conv.trans (τ := mkSt [(4, rr 1032), (5, pI 9)] [(c124e2)]) Conv.eqK (Conv.trans (τ := mkSt [(4, rr 1032), (5, pI 9)] ((100000, ⟨0, .row 6 0 (elems encNode dNode [])⟩) :: [(c124e3)])) (Conv.adopt 100000 6 (elems encNode dNode []) rfl rfl (.rfl _) (.box (.cons (.nil _ _) (.cons (.rfl _) (.rfl _))) (.rfl _))) Conv.t0)) ?_
    refine DW.ret ?_
    obtain rfl := Option.some.inj hm
    exact retK [roNode []] [100000] (.tup [.agg [ow 0 0, pI 0], pI 9])
   ·intro h5 hm
    obtain ⟨r6, hr6, hm⟩ := bind_open hm
    refine DW.seq (RD hnt (nn 2 (.call 27 [] true (ow 0 r6.length) [] [roI r6] :: nn 3 [])) [19] [(23, pB (decide (((r6.length : Nat) : Int) > 0)))] [] [] (an (Children_ref5Spec p0 p1 r6 hr6) trivial) ?_)
    refine condM hm ?_ ?_
    ·intro h7 hm
     refine DW.seq (RD hnt (nn 3 []) [1, 2, 23] [(5, pI 6)] [1016] [] trivial ?_)
     refine DW.conv (τ := mkSt [(4, rr 1032), (5, pI 6)] [(c124e3), (100000, ob0 (roNode []))]) (Conv.trans (τ := mkSt [(4, rr 1032), (5, pI 6)] [(c124e2)]) Conv.eqK (Conv.trans (τ := mkSt [(4, rr 1032), (5, pI 6)] ((100000, ⟨0, .row 6 0 (elems encNode dNode [])⟩) :: [(c124e3)])) (Conv.adopt 100000 6 (elems encNode dNode []) rfl rfl (.rfl _) (.box (.cons (.nil _ _) (.cons (.rfl _) (.rfl _))) (.rfl _))) Conv.t0)) ?_
     refine DW.ret ?_
     obtain rfl := Option.some.inj hm
     exact retK [roNode []] [100000] (.tup [.agg [ow 0 0, pI 0], pI 6])
    ·intro h7 hm
     refine DW.skip ?_
     refine DW.done ?_
     show DW _ _ _ _ _
     refine DW.seq (RD hnt (nn 5 []) [23] [(6, rr 1048)] [] [(1048, bx [.p (.sl .nil 0 0 (fun _ => [])), pI p0.next])] trivial ?_)
     refine DW.seq (DW.seq (RD hnt (.no :: []) [] [(7, pI 0)] [] [] trivial ?_))
     refine DW.block ?_
     obtain ⟨hc1, hm⟩ := guard_open hm
     refine DW.rangeO (fun (k1 : Nat) (s1 : List Node) => mkSt [(1, pI p1), (2, rr 1016), (4, rr 1032), (6, rr 1048), (7, pI ((k1 : Nat) : Int))] [(c124e4 p0), (c124e2), (1048, bx [ow 1448 s1.length, pI p0.next]), (1448, ob0 (roNode s1))]) dNode hm (Conv.trans (τ := mkSt [(1, pI p1), (2, rr 1016), (4, rr 1032), (6, rr 1048), (7, pI 0)] [(c124e4 p0), (c124e2), (1048, bx [.p (.sl .nil 0 0 (fun _ => [])), pI p0.next])]) Conv.eqK (Conv.trans (τ := mkSt [(1, pI p1), (2, rr 1016), (4, rr 1032), (6, rr 1048), (7, pI 0)] ((1448, ⟨0, .row 6 0 (elems encNode dNode [])⟩) :: [(c124e4 p0), (c124e2), (1048, bx [ow 1448 0, pI p0.next])])) (Conv.adopt 1448 6 (elems encNode dNode []) rfl rfl (.rfl _) (.keep (.keep (.box (.cons (.nil _ _) (.cons (.rfl _) (.rfl _))) (.rfl _))))) Conv.t0)) ?_
     intro k1 s1 n1 hk1 hs1 he1
     refine DW.seq (DW.seq (RD hnt (nn 5 []) [] [(37, pB (decide (((k1 : Nat) : Int) < ((p0.nodes.length : Nat) : Int))))] [] [] trivial ?_))
     refine condK (decide (((k1 : Nat) : Int) < ((p0.nodes.length : Nat) : Int))) ?_ ?_
     ·intro h17
      have hlt1 : k1 < p0.nodes.length := by have := of_decide_eq_true h17; omega
      have hm := hs1 hlt1
      unfold Remove_ref5L1 at hm
      refine DW.skip ?_
      refine DW.seq ?_
      refine DW.join (ι := List Node) (fun (y3 : List Node) => mkSt [(1, pI p1), (2, rr 1016), (4, rr 1032), (6, rr 1048), (7, pI ((k1 : Nat) : Int))] [(c124e4 p0), (c124e2), (1048, bx [ow 1448 y3.length, pI p0.next]), (1448, ob0 (roNode y3))]) (fun y3 => (Remove_ref5J3 n1) y3 = some RES) ?_ ?_
      ·intro y3 hm
       unfold Remove_ref5J3 at hm
       refine RD hnt (nn 3 []) [] [(7, pI (w64 (((k1 : Nat) : Int) + 1)))] [] [] trivial ?_
       exact joinDone y3 ⟨hlt1, hm⟩ (Conv.tp [(7, pI (w64 (((k1 : Nat) : Int) + 1)))] [] (by kernel_rfl) (.cons rfl (.of_eq (congrArg pI (w64_succ hlt1 hc1))) .nil) .nil)
      ·refine DW.block ?_
       refine DW.seq (RD hnt (nn 8 []) [37] [(47, pB ((c124e1 p0 k1).id != p1))] [] [] (an (nn0 k1) (an (ltc hlt1) trivial)) ?_)
       refine condM hm ?_ ?_
       ·intro h18 hm
        obtain ⟨g19, hm⟩ := guard_open hm
        refine RN hnt (nn 11 []) [(1, pI p1), (2, rr 1016), (4, rr 1032), (6, rr 1048), (7, pI ((k1 : Nat) : Int))] [(c124e4 p0), (c124e2), (1048, bx [ow 1448 (s1 ++ [(c124e1 p0 k1)]).length, pI p0.next]), (1448, ob0 (roNode (s1 ++ [(c124e1 p0 k1)])))] [] [(1048, .box [ow 1448 (s1.length + 1), pI p0.next]), (1448, .row 6 (s1.length + 1) (catF s1.length (elNode s1) (cut 6 [vi (c124e1 p0 k1).id, vi (c124e1 p0 k1).parent, vs (c124e1 p0 k1).name, vi (c124e1 p0 k1).control, vi (c124e1 p0 k1).kind, vi (c124e1 p0 k1).owner])))] (an (nn0 k1) (an (ltc hlt1) (an (by omega : (s1.length + 1) * 56 ≤ 140737488355328) trivial))) (by kernel_rfl) .nil (.cons rfl (.box (.cons (MLe.ownLen (enc := encNode) (d := dNode) (f := (catF s1.length (elNode s1) (cut 6 [vi (c124e1 p0 k1).id, vi (c124e1 p0 k1).parent, vs (c124e1 p0 k1).name, vi (c124e1 p0 k1).control, vi (c124e1 p0 k1).kind, vi (c124e1 p0 k1).owner]))) (RowIs.cat RowIs.elems (RowIs.lit (enc := encNode) (d := dNode) (n := 1) (f := (cut 6 [vi (c124e1 p0 k1).id, vi (c124e1 p0 k1).parent, vs (c124e1 p0 k1).name, vi (c124e1 p0 k1).control, vi (c124e1 p0 k1).kind, vi (c124e1 p0 k1).owner])) [(c124e1 p0 k1)] rfl (fun | 0, _ => rfl | n + 1, h => absurd h (by omega))))) (.cons .rfl .nil))) (.cons rfl (BLe.typed (RowIs.cat RowIs.elems (RowIs.lit (enc := encNode) (d := dNode) (n := 1) (f := (cut 6 [vi (c124e1 p0 k1).id, vi (c124e1 p0 k1).parent, vs (c124e1 p0 k1).name, vi (c124e1 p0 k1).control, vi (c124e1 p0 k1).kind, vi (c124e1 p0 k1).owner])) [(c124e1 p0 k1)] rfl (fun | 0, _ => rfl | n + 1, h => absurd h (by omega))))) .nil)) ?_
        exact blockDone (s1 ++ [(c124e1 p0 k1)]) hm .refl
       ·intro h18 hm
        refine DW.skip ?_
        exact blockDone s1 hm Conv.t0
     ·intro h17
      have hge1 : ¬ k1 < p0.nodes.length := by have := of_decide_eq_false h17; omega
      have hm := he1 hge1
      unfold Remove_ref5D1 at hm
      refine DW.exit ?_
      refine joinQ_exit ?_
      refine KQ_exit ?_
      refine blockQ_exit ?_
      show DW _ _ _ _ _
      refine DW.seq (RK hnt (nn 3 []) [(4, rr 1032), (5, pI 0)] [(1032, bx [ow 1448 s1.length, pI p0.next]), (1448, ob0 (roNode s1))] trivial ?_)
      refine DW.ret ?_
      obtain rfl := Option.some.inj hm
      exact retK [roNode s1] [1448] (.tup [.agg [ow 0 s1.length, pI p0.next], pI 0])

abbrev c80e1 : Nat × Obj := (1032, bx [.p (.sl .nil 0 0 (fun _ => [])), pI 0])
theorem Tree_Dice_madeSpec (p0 : Dice) (p1 : Int) (RES : Tree × Dice) (hm : Tree_Dice_made p0 p1 = some RES) : Spec Tryz.prog 80 [rr 0, pI p1] [.box (pm (encDice p0))] (.p (.agg (encTree RES.1))) [.box (pm (encDice RES.2))] [] := by
 unfold Tree_Dice_made at hm
 refine SO Tryz.func80 rfl rfl [(0, rr 0), (1, pI p1)] [(0, bx (pm (encDice p0)))] ?_
 intro cx hnt
 refine DW.seq (RD hnt (.no :: []) [] [(4, rr 1032)] [] [(c80e1)] trivial ?_)
 obtain ⟨r1, hr1, hm⟩ := bind_open hm
 refine DW.seq (RD hnt (.call 120 [] true (.agg [ow 0 r1.nodes.length, pI r1.next]) [] [roNode r1.nodes] :: nn 2 []) [] [(5, rr 1040)] [] [(1040, bx [ow 1104 r1.nodes.length, pI r1.next]), (1104, ob0 (roNode r1.nodes))] (an (New_ref5Spec r1 hr1) trivial) ?_)
 obtain ⟨r2, hr2, hm⟩ := bind_open hm
 refine DW.seq (DW.seq (RD hnt (nn 3 (.call 19 [0] true (pI r2.1) [.box (pm (encDice r2.2))] [] :: .no :: [])) [1] [(6, pI r2.1)] [] [(0, bx (pm (encDice r2.2)))] (an (Next_Dice_madeSpec p0 (w64 (p1 + 1)) r2 hr2) (an trivial trivial)) ?_))
 refine DW.block ?_
 refine DW.whileO (fun (s1 : Dice × Tree × Int) => mkSt [(0, rr 0), (4, rr 1032), (5, rr 1040), (6, pI s1.2.2)] [(0, bx (pm (encDice s1.1))), (c80e1), (1040, bx (pm (encTree s1.2.1)))]) hm (Conv.freezes [1104] (by kernel_rfl)) ?_
 intro s1 n1 hm
 unfold Tree_Dice_madeL1 at hm
 refine DW.seq (DW.seq (RD hnt (nn 2 []) [] [(19, pB (decide (s1.2.2 > 0)))] [] [] trivial ?_))
 refine condM hm ?_ ?_
 ·intro h18 hm
  refine DW.skip ?_
  refine DW.seq ?_
  refine DW.join (ι := Dice × Tree) (fun (y3 : Dice × Tree) => mkSt [(0, rr 0), (4, rr 1032), (5, rr 1040), (6, pI s1.2.2)] [(0, bx (pm (encDice y3.1))), (c80e1), (1040, bx (pm (encTree y3.2)))]) (fun y3 => (Tree_Dice_madeJ3 s1 n1) y3 = some RES) ?_ ?_
  ·intro y3 hm
   unfold Tree_Dice_madeJ3 at hm
   refine RD hnt (nn 3 []) [] [(6, pI (w64 (s1.2.2 - 1)))] [] [] trivial ?_
   exact joinDone (y3.1, y3.2, (w64 (s1.2.2 - 1))) hm Conv.eqK
  ·refine DW.block ?_
   obtain ⟨r19, hr19, hm⟩ := bind_open hm
   obtain ⟨g20, hm⟩ := guard_open hm
   refine DW.seq (RD hnt (nn 6 (.call 19 [0] true (pI r19.1) [.box (pm (encDice r19.2))] [] :: nn 4 [])) [19] [(7, pI (s1.2.1.nodes.getD (Int.toNat r19.1) dNode).id)] [] [(0, bx (pm (encDice r19.2)))] (an (Next_Dice_madeSpec s1.1 ((s1.2.1.nodes.length : Nat) : Int) r19 hr19) (an trivial (an g20.1 (an g20.2 trivial)))) ?_)
   obtain ⟨r21, hr21, hm⟩ := bind_open hm
   obtain ⟨r22, hr22, hm⟩ := bind_open hm
   refine DW.seq (DW.seq (RD hnt (nn 3 (.call 132 [0] true (pS r21.1) [.box (pm (encDice r21.2))] [] :: .call 131 [] true (.tup [.agg [ow 0 r22.1.nodes.length, pI r22.1.next], pI r22.2.1, pI r22.2.2]) [] [roNode r22.1.nodes] :: nn 8 [])) [7] [(8, rr 1064), (10, pI r22.2.2)] [] [(0, bx (pm (encDice r21.2))), (1064, bx [ow 1296 r22.1.nodes.length, pI r22.1.next]), (1296, ob0 (roNode r22.1.nodes))] (an (Name_Dice_madeSpec r19.2 r21 hr21) (an trivial (an (Add_ref5Spec s1.2.1 (s1.2.1.nodes.getD (Int.toNat r19.1) dNode).id r21.1 r22 hr22) trivial))) ?_))
   refine DW.seq (RD hnt (nn 2 []) [10] [(42, pB (r22.2.2 == 0))] [] [] trivial ?_)
   refine DW.join (ι := Tree) (fun (y4 : Tree) => mkSt [(0, rr 0), (4, rr 1032), (5, rr 1040), (6, pI s1.2.2)] [(0, bx (pm (encDice r21.2))), (c80e1), (1040, bx (pm (encTree y4)))]) (fun y4 => (Tree_Dice_madeJ4 s1 n1 r21) y4 = some RES) ?_ ?_
   ·intro y4 hm
    unfold Tree_Dice_madeJ4 at hm
    obtain ⟨r24, hr24, hm⟩ := bind_open hm
    refine DW.seq (RD hnt (.no :: .call 77 [0] true (pB r24.1) [.box (pm (encDice r24.2))] [] :: []) [] [(45, pB r24.1)] [] [(0, bx (pm (encDice r24.2)))] (an (Bool_Dice_madeSpec r21.2 6 r24 hr24) (an trivial trivial)) ?_)
    refine condM hm ?_ ?_
    ·intro h25 hm
     obtain ⟨r26, hr26, hm⟩ := bind_open hm
     obtain ⟨g27, hm⟩ := guard_open hm
     obtain ⟨r28, hr28, hm⟩ := bind_open hm
     refine DW.seq (RD hnt (nn 7 (.call 19 [0] true (pI r26.1) [.box (pm (encDice r26.2))] [] :: nn 3 (.call 124 [] true (.tup [.agg [ow 0 r28.1.nodes.length, pI r28.1.next], pI r28.2]) [] [roNode r28.1.nodes] :: nn 6 []))) [45] [(11, rr 1088), (12, pI r28.2)] [] [(0, bx (pm (encDice r26.2))), (1088, bx [ow 1464 r28.1.nodes.length, pI r28.1.next]), (1464, ob0 (roNode r28.1.nodes))] (an (Next_Dice_madeSpec r24.2 ((y4.nodes.length : Nat) : Int) r26 hr26) (an trivial (an g27.1 (an g27.2 (an (Remove_ref5Spec y4 (y4.nodes.getD (Int.toNat r26.1) dNode).id r28 hr28) trivial))))) ?_)
     refine DW.seq (RD hnt (nn 2 []) [12] [(62, pB (r28.2 == 0))] [] [] trivial ?_)
     refine condM hm ?_ ?_
     ·intro h29 hm
      refine RD hnt (nn 2 []) [11, 62] [] [1088] [(1040, bx [ow 1464 r28.1.nodes.length, pI r28.1.next])] trivial ?_
      exact blockDone (r26.2, r28.1) hm (Conv.freezes [1464] (by kernel_rfl))
     ·intro h29 hm
      refine DW.skip ?_
      exact blockDone (r26.2, y4) hm Conv.t0
    ·intro h25 hm
     refine DW.skip ?_
     exact blockDone (r24.2, y4) hm Conv.t0
   ·refine condM hm ?_ ?_
    ·intro h23 hm
     refine RD hnt (nn 2 []) [8, 42] [] [1064] [(1040, bx [ow 1296 r22.1.nodes.length, pI r22.1.next])] trivial ?_
     exact joinDone r22.1 hm (Conv.freezes [1296] (by kernel_rfl))
    ·intro h23 hm
     refine DW.skip ?_
     exact joinDone s1.2.1 hm Conv.t0
 ·intro h18 hm
  refine DW.exit ?_
  refine joinQ_exit ?_
  refine KQ_exit ?_
  refine blockQ_exit ?_
  show DW _ _ _ _ _
  refine DW.seq (RD hnt (nn 2 []) [0, 5, 6, 19] [] [1040] [(1032, bx (pm (encTree s1.2.1)))] trivial ?_)
  refine DW.ret ?_
  obtain rfl := Option.some.inj hm
  exact retK [.box (pm (encDice s1.1))] [] (.p (.agg (encTree s1.2.1)))

theorem Group_Dice_madeSpec (p0 : Dice) (p1 : Tree) (RES : Int × Dice) (hm : Group_Dice_made p0 p1 = some RES) : Spec Tryz.prog 33 [rr 0, .p (.agg (encTree p1))] [.box (pm (encDice p0))] (pI RES.1) [.box (pm (encDice RES.2))] [] := by
 unfold Group_Dice_made at hm
 refine SO Tryz.func33 rfl rfl [(0, rr 0), (1, .p (.agg (encTree p1)))] [(0, bx (pm (encDice p0)))] ?_
 intro cx hnt
 refine DW.seq (RD hnt (nn 2 []) [1] [(3, rr 1024)] [] [(1024, bx (pm (encTree p1)))] trivial ?_)
 obtain ⟨r1, hr1, hm⟩ := bind_open hm
 refine DW.seq (DW.seq ?_)
 refine DW.join (ι := Bool) (fun (y1 : Bool) => mkSt [(0, rr 0), (3, rr 1024), (12, pB y1)] [(0, bx (pm (encDice r1.2))), (1024, bx (pm (encTree p1)))]) (fun y1 => (Group_Dice_madeJ1 p1 r1) y1 = some RES) ?_ ?_
 ·intro y1 hm
  unfold Group_Dice_madeJ1 at hm
  refine condM hm ?_ ?_
  ·intro h3 hm
   obtain ⟨r4, hr4, hm⟩ := bind_open hm
   refine DW.seq (RK hnt (.no :: .call 19 [0] true (pI r4.1) [.box (pm (encDice r4.2))] [] :: nn 2 []) [(4, pI (w64 (r4.1 - 1)))] [(0, bx (pm (encDice r4.2)))] (an (Next_Dice_madeSpec r1.2 9 r4 hr4) (an trivial trivial)) ?_)
   refine DW.ret ?_
   obtain rfl := Option.some.inj hm
   exact retK [.box (pm (encDice r4.2))] [] (pI (w64 (r4.1 - 1)))
  ·intro h3 hm
   refine DW.skip ?_
   obtain ⟨r5, hr5, hm⟩ := bind_open hm
   obtain ⟨g6, hm⟩ := guard_open hm
   refine DW.seq (RK hnt (nn 6 (.call 19 [0] true (pI r5.1) [.box (pm (encDice r5.2))] [] :: nn 4 [])) [(4, pI (p1.nodes.getD (Int.toNat r5.1) dNode).id)] [(0, bx (pm (encDice r5.2)))] (an (Next_Dice_madeSpec r1.2 ((p1.nodes.length : Nat) : Int) r5 hr5) (an trivial (an g6.1 (an g6.2 trivial)))) ?_)
   refine DW.ret ?_
   obtain rfl := Option.some.inj hm
   exact retK [.box (pm (encDice r5.2))] [] (pI (p1.nodes.getD (Int.toNat r5.1) dNode).id)
 ·rcases bt r1.1 with h2 | h2
  ·replace hm := if_t h2 hm
   refine RD hnt (.no :: .call 77 [0] true (pB r1.1) [.box (pm (encDice r1.2))] [] :: .no :: sk 4 (pT :: [])) [] [(12, pB true)] [] [(0, bx (pm (encDice r1.2)))] (an (Bool_Dice_madeSpec p0 15 r1 hr1) (an trivial (an5 h2 trivial))) ?_
   exact joinDone true hm Conv.eqK
  ·replace hm := if_f h2 hm
   refine RD hnt (.no :: .call 77 [0] true (pB r1.1) [.box (pm (encDice r1.2))] [] :: nn 5 (pF :: [])) [] [(12, pB (((p1.nodes.length : Nat) : Int) == 0))] [] [(0, bx (pm (encDice r1.2)))] (an (Bool_Dice_madeSpec p0 15 r1 hr1) (an trivial (an5 h2 trivial))) ?_
   exact joinDone (((p1.nodes.length : Nat) : Int) == 0) hm Conv.eqK

theorem Controllers_Dice_madeSpec (p0 : Dice) (RES : Int × Dice) (hm : Controllers_Dice_made p0 = some RES) : Spec Tryz.prog 107 [rr 0] [.box (pm (encDice p0))] (pI RES.1) [.box (pm (encDice RES.2))] [] := by
 unfold Controllers_Dice_made at hm
 refine SO Tryz.func107 rfl rfl [(0, rr 0)] [(0, bx (pm (encDice p0)))] ?_
 intro cx hnt
 refine DW.seq (RD hnt (.no :: []) [] [] [] [] trivial ?_)
 obtain ⟨r3, hr3, hm⟩ := bind_open hm
 obtain ⟨g4, g5, hm⟩ := go2 hm
 refine DW.seq (RK hnt (.asR (ow 1024 [1, 9, 31, 2, 25, 4, 0, 32, (-1)].length) [1, 9, 31, 2, 25, 4, 0, 32, (-1)].length (elems encI 0 [1, 9, 31, 2, 25, 4, 0, 32, (-1)]) :: .no :: .call 19 [0] true (pI r3.1) [.box (pm (encDice r3.2))] [] :: nn 3 []) [(2, pI ([1, 9, 31, 2, 25, 4, 0, 32, (-1)].getD (Int.toNat r3.1) 0))] [(0, bx (pm (encDice r3.2)))] (an (congrArg (MV.own 1024 0 0) (RowIs.asP (enc := encI) (d := 0) (L := [1, 9, 31, 2, 25, 4, 0, 32, (-1)]) (RowIs.lit (enc := encI) (d := 0) (n := 9) (f := (cut 1 [vi 1, vi 9, vi 31, vi 2, vi 25, vi 4, vi 0, vi 32, vi (-1)])) [1, 9, 31, 2, 25, 4, 0, 32, (-1)] rfl (fun | 0, _ => rfl | 1, _ => rfl | 2, _ => rfl | 3, _ => rfl | 4, _ => rfl | 5, _ => rfl | 6, _ => rfl | 7, _ => rfl | 8, _ => rfl | n + 9, h => absurd h (by omega)))).1) (an (RowIs.asP (enc := encI) (d := 0) (L := [1, 9, 31, 2, 25, 4, 0, 32, (-1)]) (RowIs.lit (enc := encI) (d := 0) (n := 9) (f := (cut 1 [vi 1, vi 9, vi 31, vi 2, vi 25, vi 4, vi 0, vi 32, vi (-1)])) [1, 9, 31, 2, 25, 4, 0, 32, (-1)] rfl (fun | 0, _ => rfl | 1, _ => rfl | 2, _ => rfl | 3, _ => rfl | 4, _ => rfl | 5, _ => rfl | 6, _ => rfl | 7, _ => rfl | 8, _ => rfl | n + 9, h => absurd h (by omega)))) (an (Next_Dice_madeSpec p0 9 r3 hr3) (an trivial (an g4.1 (an g4.2 (an g5 trivial))))))) ?_)
 refine DW.ret ?_
 obtain rfl := Option.some.inj hm
 exact retK [.box (pm (encDice r3.2))] [] (pI ([1, 9, 31, 2, 25, 4, 0, 32, (-1)].getD (Int.toNat r3.1) 0))

theorem leader_ref6Spec (p0 : List Task) (p1 : Int) (RES : Task × Bool) (hm : leader_ref6 p0 p1 = some RES) : Spec Tryz.prog 111 [.p (slTask p0), pI p1] [] (.p (.tup [.agg (encTask RES.1), vb RES.2])) [] [] := by
 unfold leader_ref6 at hm
 refine SO Tryz.func111 rfl rfl [(0, .p (slTask p0)), (1, pI p1)] [] ?_
 intro cx hnt
 refine DW.seq (RD hnt (nn 2 []) [] [(4, rr 1032)] [] [(1032, bx [pI 0, pI 0, pI 0, pI 0])] trivial ?_)
 refine DW.seq (DW.seq (RD hnt (.no :: []) [] [(6, pI 0)] [] [] trivial ?_))
 refine DW.block ?_
 obtain ⟨hc1, hm⟩ := guard_open hm
 refine DW.rangeO (fun (k1 : Nat) (s1 : Unit) => mkSt [(0, .p (slTask p0)), (1, pI p1), (4, rr 1032), (6, pI ((k1 : Nat) : Int))] [(1032, bx [pI 0, pI 0, pI 0, pI 0])]) dTask hm Conv.eqK ?_
 intro k1 s1 n1 hk1 hs1 he1
 refine DW.seq (DW.seq (RD hnt (nn 4 []) [] [(10, pB (decide (((k1 : Nat) : Int) < ((p0.length : Nat) : Int))))] [] [] trivial ?_))
 refine condK (decide (((k1 : Nat) : Int) < ((p0.length : Nat) : Int))) ?_ ?_
 ·intro h11
  have hlt1 : k1 < p0.length := by have := of_decide_eq_true h11; omega
  have hm := hs1 hlt1
  unfold leader_ref6L1 at hm
  refine DW.skip ?_
  refine DW.seq (DW.block ?_)
  refine DW.seq (RD hnt (nn 7 []) [10] [(19, pB ((p0.getD k1 (default : Task)).id == p1))] [] [] (an (nn0 k1) (an (ltc hlt1) trivial)) ?_)
  refine condM hm ?_ ?_
  ·intro h12 hm
   refine DW.seq (RK hnt (nn 13 []) [(4, rr 1032), (5, pB ((p0.getD k1 (default : Task)).process == p1))] [(1032, bx (pm (encTask (p0.getD k1 (default : Task)))))] (an (nn0 k1) (an (ltc hlt1) (an (nn0 k1) (an (ltc hlt1) trivial)))) ?_)
   refine DW.ret ?_
   obtain rfl := Option.some.inj hm
   exact retK [] [] (.p (.tup [.agg (encTask (p0.getD k1 (default : Task))), vb ((p0.getD k1 (default : Task)).process == p1)]))
  ·intro h12 hm
   refine DW.skip ?_
   refine DW.done ?_
   show DW _ _ _ _ _
   refine RD hnt (nn 3 []) [19] [(6, pI (w64 (((k1 : Nat) : Int) + 1)))] [] [] trivial ?_
   exact joinDone () ⟨hlt1, hm⟩ (Conv.tp [(6, pI (w64 (((k1 : Nat) : Int) + 1)))] [] (by kernel_rfl) (.cons rfl (.of_eq (congrArg pI (w64_succ hlt1 hc1))) .nil) .nil)
 ·intro h11
  have hge1 : ¬ k1 < p0.length := by have := of_decide_eq_false h11; omega
  have hm := he1 hge1
  unfold leader_ref6D1 at hm
  refine DW.exit ?_
  refine joinQ_exit ?_
  refine KQ_exit ?_
  refine blockQ_exit ?_
  show DW _ _ _ _ _
  refine DW.seq (RD hnt (nn 3 []) [0, 1, 6, 10] [(5, pB false)] [] [] trivial ?_)
  refine DW.ret ?_
  obtain rfl := Option.some.inj hm
  exact retK [] [] (.p (.tup [.agg [vi 0, vi 0, vi 0, vi 0], vb false]))

abbrev c52e1 (p0 : Hierarchy) (k1 : Nat) := (p0.tasks.getD k1 (default : Task))
abbrev c52e2 (p0 : Hierarchy) : Nat × MV := (3, pI ((p0.tasks.length : Nat) : Int))
theorem Check_ref6Spec (p0 : Hierarchy) (RES : Bool) (hm : Check_ref6 p0 = some RES) : Spec Tryz.prog 52 [.p (.agg (encHierarchy p0))] [] (pB RES) [] [] := by
 unfold Check_ref6 at hm
 refine SO Tryz.func52 rfl rfl [(0, .p (.agg (encHierarchy p0)))] [] ?_
 intro cx hnt
 refine DW.seq (RK hnt (nn 2 []) [(1, rr 1008)] [(1008, bx (pm (encHierarchy p0)))] trivial ?_)
 refine DW.seq (RD hnt (nn 4 []) [] [(c52e2 p0)] [] [] trivial ?_)
 obtain ⟨r1, hr1, hm⟩ := bind_open hm
 refine DW.seq (DW.seq ?_)
 refine DW.join (ι := Bool) (fun (y1 : Bool) => mkSt [(1, rr 1008), (c52e2 p0), (44, pB y1)] [(1008, bx (pm (encHierarchy p0)))]) (fun y1 => (Check_ref6J1 p0) y1 = some RES) ?_ ?_
 ·intro y1 hm
  unfold Check_ref6J1 at hm
  refine condM hm ?_ ?_
  ·intro h8 hm
   refine DW.seq (RK hnt (.no :: []) [(2, pB false)] [] trivial ?_)
   refine DW.ret ?_
   obtain rfl := Option.some.inj hm
   exact retK [] [] (pB false)
  ·intro h8 hm
   refine DW.skip ?_
   refine DW.seq (DW.seq (RD hnt (.no :: []) [44] [(4, pI 0)] [] [] trivial ?_))
   refine DW.block ?_
   obtain ⟨hc1, hm⟩ := guard_open hm
   refine DW.rangeO (fun (k1 : Nat) (s1 : Unit) => mkSt [(1, rr 1008), (c52e2 p0), (4, pI ((k1 : Nat) : Int))] [(1008, bx (pm (encHierarchy p0)))]) dTask hm Conv.eqK ?_
   intro k1 s1 n1 hk1 hs1 he1
   refine DW.seq (DW.seq (RD hnt (nn 3 []) [] [(47, pB (decide (((k1 : Nat) : Int) < ((p0.tasks.length : Nat) : Int))))] [] [] trivial ?_))
   refine condK (decide (((k1 : Nat) : Int) < ((p0.tasks.length : Nat) : Int))) ?_ ?_
   ·intro h45
    have hlt1 : k1 < p0.tasks.length := by have := of_decide_eq_true h45; omega
    have hm := hs1 hlt1
    unfold Check_ref6L1 at hm
    refine DW.skip ?_
    refine DW.seq (DW.block ?_)
    refine DW.seq (RD hnt (nn 7 []) [47] [(5, rr 1040)] [] [(1040, bx (pm (encTask (c52e1 p0 k1))))] (an (nn0 k1) (an (ltc hlt1) trivial)) ?_)
    obtain ⟨r46, hr46, hm⟩ := bind_open hm
    refine DW.seq (RD hnt (nn 4 (.call 111 [] true (.p (.tup [.agg (encTask r46.1), vb r46.2])) [] [] :: nn 6 [])) [] [(6, rr 1048), (7, pB r46.2)] [] [(1048, bx (pm (encTask r46.1)))] (an (leader_ref6Spec p0.tasks (c52e1 p0 k1).process r46 hr46) trivial) ?_)
    refine DW.seq ?_
    refine DW.join (ι := Bool) (fun (y4 : Bool) => mkSt [(1, rr 1008), (c52e2 p0), (4, pI ((k1 : Nat) : Int)), (110, pB y4)] [(1008, bx (pm (encHierarchy p0)))]) (fun y4 => (Check_ref6J4 n1) y4 = some RES) ?_ ?_
    ·intro y4 hm
     unfold Check_ref6J4 at hm
     refine condM hm ?_ ?_
     ·intro h61 hm
      refine DW.seq (RK hnt (.no :: []) [(2, pB false)] [] trivial ?_)
      refine DW.ret ?_
      obtain rfl := Option.some.inj hm
      exact retK [] [] (pB false)
     ·intro h61 hm
      refine DW.skip ?_
      refine DW.done ?_
      show DW _ _ _ _ _
      refine RD hnt (nn 3 []) [110] [(4, pI (w64 (((k1 : Nat) : Int) + 1)))] [] [] trivial ?_
      exact joinDone () ⟨hlt1, hm⟩ (Conv.tp [(4, pI (w64 (((k1 : Nat) : Int) + 1)))] [] (by kernel_rfl) (.cons rfl (.of_eq (congrArg pI (w64_succ hlt1 hc1))) .nil) .nil)
    ·rcases bt (decide ((c52e1 p0 k1).id < 1)) with h47 | h47
     ·replace hm := if_t h47 hm
      refine RD hnt (nn 4 (sk 14 (pT :: .no :: sk 6 (pT :: .no :: sk 3 (pT :: .no :: sk 3 (pT :: .no :: sk 2 (pT :: .no :: sk 5 (pT :: [])))))))) [5, 6, 7] [(110, pB true)] [1040, 1048] [] (an5 h47 (an6 tt (an6 tt (an6 tt (an6 tt trivial))))) ?_
      exact joinDone true hm Conv.eqK
     ·replace hm := if_f h47 hm
      rcases bt (decide (((k1 : Nat) : Int) > 0)) with h48 | h48
      ·replace hm := if_t h48 hm
       obtain ⟨g49, hm⟩ := guard_open hm
       rcases bt (decide ((p0.tasks.getD (Int.toNat (w64 (((k1 : Nat) : Int) - 1))) dTask).id ≥ (c52e1 p0 k1).id)) with h50 | h50
       ·replace hm := if_t h50 hm
        refine RD hnt (nn 17 (pT :: pF :: .no :: sk 6 (pT :: .no :: sk 3 (pT :: .no :: sk 3 (pT :: .no :: sk 2 (pT :: .no :: sk 5 (pT :: []))))))) [5, 6, 7] [(110, pB true)] [1040, 1048] [] (an3 h47 (an5 h48 (an g49.1 (an g49.2 (an5 h48 (an h47 (an h48 (an h47 (an h50 (an6 h50 (an5 tt (an6 tt (an6 tt trivial))))))))))))) ?_
        exact joinDone true hm Conv.eqK
       ·replace hm := if_f h50 hm
        obtain ⟨r51, hr51, hm⟩ := bind_open hm
        rcases bt (!r51) with h52 | h52
        ·replace hm := if_t h52 hm
         refine RD hnt (nn 17 (pT :: pF :: nn 5 (.call 88 [] true (pB r51) [] [] :: .no :: pF :: .no :: sk 3 (pT :: .no :: sk 3 (pT :: .no :: sk 2 (pT :: .no :: sk 5 (pT :: []))))))) [5, 6, 7] [(110, pB true)] [1040, 1048] [] (an3 h47 (an5 h48 (an g49.1 (an g49.2 (an5 h48 (an h47 (an h48 (an h47 (an5 h50 (an (Has_ref5Spec p0.tree (c52e1 p0 k1).group r51 hr51) (an2 h50 (an4 h52 (an tt (an6 tt (an6 tt trivial))))))))))))))) ?_
         exact joinDone true hm Conv.eqK
        ·replace hm := if_f h52 hm
         rcases bt (decide ((c52e1 p0 k1).user < 0)) with h53 | h53
         ·replace hm := if_t h53 hm
          refine RD hnt (nn 17 (pT :: pF :: nn 5 (.call 88 [] true (pB r51) [] [] :: .no :: pF :: nn 4 (pF :: .no :: sk 3 (pT :: .no :: sk 2 (pT :: .no :: sk 5 (pT :: []))))))) [5, 6, 7] [(110, pB true)] [1040, 1048] [] (an3 h47 (an5 h48 (an g49.1 (an g49.2 (an5 h48 (an h47 (an h48 (an h47 (an5 h50 (an (Has_ref5Spec p0.tree (c52e1 p0 k1).group r51 hr51) (an2 h50 (an4 h52 (an4 h53 (an3 tt (an6 tt trivial))))))))))))))) ?_
          exact joinDone true hm Conv.eqK
         ·replace hm := if_f h53 hm
          rcases bt (decide ((c52e1 p0 k1).user > 1048576)) with h54 | h54
          ·replace hm := if_t h54 hm
           refine RD hnt (nn 17 (pT :: pF :: nn 5 (.call 88 [] true (pB r51) [] [] :: .no :: pF :: nn 4 (pF :: nn 4 (pF :: .no :: sk 2 (pT :: .no :: sk 5 (pT :: []))))))) [5, 6, 7] [(110, pB true)] [1040, 1048] [] (an3 h47 (an5 h48 (an g49.1 (an g49.2 (an5 h48 (an h47 (an h48 (an h47 (an5 h50 (an (Has_ref5Spec p0.tree (c52e1 p0 k1).group r51 hr51) (an2 h50 (an4 h52 (an4 h53 (an3 h54 (an6 tt trivial))))))))))))))) ?_
           exact joinDone true hm Conv.eqK
          ·replace hm := if_f h54 hm
           rcases bt (!r46.2) with h55 | h55
           ·replace hm := if_t h55 hm
            refine RD hnt (nn 17 (pT :: pF :: nn 5 (.call 88 [] true (pB r51) [] [] :: .no :: pF :: nn 4 (pF :: nn 4 (pF :: nn 3 (pF :: .no :: sk 5 (pT :: []))))))) [5, 6, 7] [(110, pB true)] [1040, 1048] [] (an3 h47 (an5 h48 (an g49.1 (an g49.2 (an5 h48 (an h47 (an h48 (an h47 (an5 h50 (an (Has_ref5Spec p0.tree (c52e1 p0 k1).group r51 hr51) (an2 h50 (an4 h52 (an4 h53 (an3 h54 (an6 h55 trivial))))))))))))))) ?_
            exact joinDone true hm Conv.eqK
           ·replace hm := if_f h55 hm
            refine RD hnt (nn 17 (pT :: pF :: nn 5 (.call 88 [] true (pB r51) [] [] :: .no :: pF :: nn 4 (pF :: nn 4 (pF :: nn 3 (pF :: nn 6 (pF :: []))))))) [5, 6, 7] [(110, pB (r46.1.user != (c52e1 p0 k1).user))] [1040, 1048] [] (an3 h47 (an5 h48 (an g49.1 (an g49.2 (an5 h48 (an h47 (an h48 (an h47 (an5 h50 (an (Has_ref5Spec p0.tree (c52e1 p0 k1).group r51 hr51) (an2 h50 (an4 h52 (an4 h53 (an3 h54 (an6 h55 trivial))))))))))))))) ?_
            exact joinDone (r46.1.user != (c52e1 p0 k1).user) hm Conv.eqK
      ·replace hm := if_f h48 hm
       obtain ⟨r56, hr56, hm⟩ := bind_open hm
       rcases bt (!r56) with h57 | h57
       ·replace hm := if_t h57 hm
        refine RD hnt (nn 7 (sk 10 (pF :: pF :: nn 5 (.call 88 [] true (pB r56) [] [] :: .no :: pF :: .no :: sk 3 (pT :: .no :: sk 3 (pT :: .no :: sk 2 (pT :: .no :: sk 5 (pT :: [])))))))) [5, 6, 7] [(110, pB true)] [1040, 1048] [] (an3 h47 (an4 h48 (an6 h48 (an h47 (an h48 (an h47 (an5 ff (an (Has_ref5Spec p0.tree (c52e1 p0 k1).group r56 hr56) (an2 ff (an4 h57 (an tt (an6 tt (an6 tt trivial))))))))))))) ?_
        exact joinDone true hm Conv.eqK
       ·replace hm := if_f h57 hm
        rcases bt (decide ((c52e1 p0 k1).user < 0)) with h58 | h58
        ·replace hm := if_t h58 hm
         refine RD hnt (nn 7 (sk 10 (pF :: pF :: nn 5 (.call 88 [] true (pB r56) [] [] :: .no :: pF :: nn 4 (pF :: .no :: sk 3 (pT :: .no :: sk 2 (pT :: .no :: sk 5 (pT :: [])))))))) [5, 6, 7] [(110, pB true)] [1040, 1048] [] (an3 h47 (an4 h48 (an6 h48 (an h47 (an h48 (an h47 (an5 ff (an (Has_ref5Spec p0.tree (c52e1 p0 k1).group r56 hr56) (an2 ff (an4 h57 (an4 h58 (an3 tt (an6 tt trivial))))))))))))) ?_
         exact joinDone true hm Conv.eqK
        ·replace hm := if_f h58 hm
         rcases bt (decide ((c52e1 p0 k1).user > 1048576)) with h59 | h59
         ·replace hm := if_t h59 hm
          refine RD hnt (nn 7 (sk 10 (pF :: pF :: nn 5 (.call 88 [] true (pB r56) [] [] :: .no :: pF :: nn 4 (pF :: nn 4 (pF :: .no :: sk 2 (pT :: .no :: sk 5 (pT :: [])))))))) [5, 6, 7] [(110, pB true)] [1040, 1048] [] (an3 h47 (an4 h48 (an6 h48 (an h47 (an h48 (an h47 (an5 ff (an (Has_ref5Spec p0.tree (c52e1 p0 k1).group r56 hr56) (an2 ff (an4 h57 (an4 h58 (an3 h59 (an6 tt trivial))))))))))))) ?_
          exact joinDone true hm Conv.eqK
         ·replace hm := if_f h59 hm
          rcases bt (!r46.2) with h60 | h60
          ·replace hm := if_t h60 hm
           refine RD hnt (nn 7 (sk 10 (pF :: pF :: nn 5 (.call 88 [] true (pB r56) [] [] :: .no :: pF :: nn 4 (pF :: nn 4 (pF :: nn 3 (pF :: .no :: sk 5 (pT :: [])))))))) [5, 6, 7] [(110, pB true)] [1040, 1048] [] (an3 h47 (an4 h48 (an6 h48 (an h47 (an h48 (an h47 (an5 ff (an (Has_ref5Spec p0.tree (c52e1 p0 k1).group r56 hr56) (an2 ff (an4 h57 (an4 h58 (an3 h59 (an6 h60 trivial))))))))))))) ?_
           exact joinDone true hm Conv.eqK
          ·replace hm := if_f h60 hm
           refine RD hnt (nn 7 (sk 10 (pF :: pF :: nn 5 (.call 88 [] true (pB r56) [] [] :: .no :: pF :: nn 4 (pF :: nn 4 (pF :: nn 3 (pF :: nn 6 (pF :: [])))))))) [5, 6, 7] [(110, pB (r46.1.user != (c52e1 p0 k1).user))] [1040, 1048] [] (an3 h47 (an4 h48 (an6 h48 (an h47 (an h48 (an h47 (an5 ff (an (Has_ref5Spec p0.tree (c52e1 p0 k1).group r56 hr56) (an2 ff (an4 h57 (an4 h58 (an3 h59 (an6 h60 trivial))))))))))))) ?_
           exact joinDone (r46.1.user != (c52e1 p0 k1).user) hm Conv.eqK
   ·intro h45
    have hge1 : ¬ k1 < p0.tasks.length := by have := of_decide_eq_false h45; omega
    have hm := he1 hge1
    unfold Check_ref6D1 at hm
    refine DW.exit ?_
    refine joinQ_exit ?_
    refine KQ_exit ?_
    refine blockQ_exit ?_
    show DW _ _ _ _ _
    refine DW.seq (RK hnt (.no :: []) [(2, pB true)] [] trivial ?_)
    refine DW.ret ?_
    obtain rfl := Option.some.inj hm
    exact retK [] [] (pB true)
 ·rcases bt (!r1) with h2 | h2
  ·replace hm := if_t h2 hm
   refine RD hnt (nn 2 (.call 110 [] true (pB r1) [] [] :: nn 2 (sk 2 (pT :: .no :: sk 3 (pT :: .no :: sk 3 (pT :: .no :: sk 14 (pT :: []))))))) [] [(44, pB true)] [] [] (an (Check_ref5Spec p0.tree r1 hr1) (an3 h2 (an tt (an6 tt (an6 tt trivial))))) ?_
   exact joinDone true hm Conv.eqK
  ·replace hm := if_f h2 hm
   rcases bt (decide (((p0.tasks.length : Nat) : Int) > 128)) with h3 | h3
   ·replace hm := if_t h3 hm
    refine RD hnt (nn 2 (.call 110 [] true (pB r1) [] [] :: nn 4 (pF :: .no :: sk 3 (pT :: .no :: sk 3 (pT :: .no :: sk 14 (pT :: [])))))) [] [(44, pB true)] [] [] (an (Check_ref5Spec p0.tree r1 hr1) (an3 h2 (an4 h3 (an3 tt (an6 tt trivial))))) ?_
    exact joinDone true hm Conv.eqK
   ·replace hm := if_f h3 hm
    rcases bt (decide (p0.next < 1)) with h4 | h4
    ·replace hm := if_t h4 hm
     refine RD hnt (nn 2 (.call 110 [] true (pB r1) [] [] :: nn 4 (pF :: nn 4 (pF :: .no :: sk 3 (pT :: .no :: sk 14 (pT :: [])))))) [] [(44, pB true)] [] [] (an (Check_ref5Spec p0.tree r1 hr1) (an3 h2 (an4 h3 (an4 h4 (an5 tt trivial))))) ?_
     exact joinDone true hm Conv.eqK
    ·replace hm := if_f h4 hm
     rcases bt (decide (p0.next > 2147483648)) with h5 | h5
     ·replace hm := if_t h5 hm
      refine RD hnt (nn 2 (.call 110 [] true (pB r1) [] [] :: nn 4 (pF :: nn 4 (pF :: nn 4 (pF :: .no :: sk 14 (pT :: [])))))) [] [(44, pB true)] [] [] (an (Check_ref5Spec p0.tree r1 hr1) (an3 h2 (an4 h3 (an4 h4 (an5 h5 trivial))))) ?_
      exact joinDone true hm Conv.eqK
     ·replace hm := if_f h5 hm
      rcases bt (decide (((p0.tasks.length : Nat) : Int) > 0)) with h6 | h6
      ·replace hm := if_t h6 hm
       obtain ⟨g7, hm⟩ := guard_open hm
       refine RD hnt (nn 2 (.call 110 [] true (pB r1) [] [] :: nn 4 (pF :: nn 4 (pF :: nn 4 (pF :: nn 14 (pT :: pF :: [])))))) [] [(44, pB (decide (p0.next ≤ (p0.tasks.getD (Int.toNat (w64 (((p0.tasks.length : Nat) : Int) - 1))) dTask).id)))] [] [] (an (Check_ref5Spec p0.tree r1 hr1) (an3 h2 (an4 h3 (an4 h4 (an3 h5 (an h6 (an6 h6 (an g7.1 (an g7.2 (an3 h6 (an h5 (an h6 (an h5 trivial))))))))))))) ?_
       exact joinDone (decide (p0.next ≤ (p0.tasks.getD (Int.toNat (w64 (((p0.tasks.length : Nat) : Int) - 1))) dTask).id)) hm Conv.eqK
      ·replace hm := if_f h6 hm
       refine RD hnt (nn 2 (.call 110 [] true (pB r1) [] [] :: nn 4 (pF :: nn 4 (pF :: nn 4 (pF :: nn 4 (sk 10 (pF :: pF :: []))))))) [] [(44, pB false)] [] [] (an (Check_ref5Spec p0.tree r1 hr1) (an3 h2 (an4 h3 (an4 h4 (an3 h5 (an4 h6 (an6 h6 (an h5 (an h6 (an h5 trivial)))))))))) ?_
       exact joinDone false hm Conv.eqK

theorem Acting_ref7Spec (p0 : Tree) (p1 : Int) (RES : Int) (hm : Acting_ref7 p0 p1 = some RES) : Spec Tryz.prog 189 [.p (.agg (encTree p0)), pI p1] [] (pI RES) [] [] := by
 unfold Acting_ref7 at hm
 refine SO Tryz.func189 rfl rfl [(0, .p (.agg (encTree p0))), (1, pI p1)] [] ?_
 intro cx hnt
 refine DW.seq (RK hnt (nn 2 []) [(1, pI p1), (2, rr 1016)] [(1016, bx (pm (encTree p0)))] trivial ?_)
 obtain ⟨r1, hr1, hm⟩ := bind_open hm
 refine DW.seq (RD hnt (nn 2 (.call 135 [] true (.p (.tup [.agg (encNode r1.1), vb r1.2])) [] [] :: nn 6 [])) [] [(5, rr 1040), (6, pB r1.2)] [] [(1040, bx (pm (encNode r1.1)))] (an (Find_ref5Spec p0 p1 r1 hr1) trivial) ?_)
 refine DW.seq (DW.seq (DW.regJ (sl2 := [(2, rr 1016), (5, rr 1040), (20, pB ((!r1.2) || (p1 == 1)))]) (ob2 := [(1016, bx (pm (encTree p0))), (1040, bx (pm (encNode r1.1)))]) ?_ ?_))
 ·rcases bt (!r1.2) with h2 | h2
  ·exact RT hnt (nn 3 (sk 2 (pT :: []))) [(20, pB true)] (an3 h2 trivial) (by kernel_rfl) (.cons rfl (.of_eq (by rw [h2]; try rfl)) .nil)
  ·exact RT hnt (nn 5 (pF :: [])) [(20, pB (p1 == 1))] (an3 h2 trivial) (by kernel_rfl) (.cons rfl (.of_eq (by rw [h2]; try rfl)) .nil)
 ·refine condM hm ?_ ?_
  ·intro h3 hm
   refine DW.seq (RK hnt (.no :: []) [(4, pI 0)] [] trivial ?_)
   refine DW.ret ?_
   obtain rfl := Option.some.inj hm
   exact retK [] [] (pI 0)
  ·intro h3 hm
   refine DW.skip ?_
   obtain ⟨r4, hr4, hm⟩ := bind_open hm
   refine DW.seq (RD hnt (nn 3 (.call 135 [] true (.p (.tup [.agg (encNode r4.1), vb r4.2])) [] [] :: nn 6 [])) [2, 20] [(7, rr 1056)] [1016] [(1056, bx (pm (encNode r4.1)))] (an (Find_ref5Spec p0 r1.1.parent r4 hr4) trivial) ?_)
   refine DW.seq (DW.seq (RD hnt (nn 3 []) [5] [(30, pB (r1.1.kind == 1))] [1040] [] trivial ?_))
   refine condM hm ?_ ?_
   ·intro h5 hm
    refine DW.seq (RK hnt (nn 4 []) [(4, pI (kandNot .i64 r4.1.control 6))] [] trivial ?_)
    refine DW.ret ?_
    obtain rfl := Option.some.inj hm
    exact retK [] [] (pI (kandNot .i64 r4.1.control 6))
   ·intro h5 hm
    refine DW.skip ?_
    refine DW.seq (RK hnt (nn 3 []) [(4, pI r4.1.control)] [] trivial ?_)
    refine DW.ret ?_
    obtain rfl := Option.some.inj hm
    exact retK [] [] (pI r4.1.control)

theorem Available_ref7Spec (p0 : Tree) (p1 : Int) (RES : Int) (hm : Available_ref7 p0 p1 = some RES) : Spec Tryz.prog 174 [.p (.agg (encTree p0)), pI p1] [] (pI RES) [] [] := by
 unfold Available_ref7 at hm
 refine SO Tryz.func174 rfl rfl [(0, .p (.agg (encTree p0))), (1, pI p1)] [] ?_
 intro cx hnt
 refine DW.seq (RK hnt (nn 2 []) [(1, pI p1), (2, rr 1016)] [(1016, bx (pm (encTree p0)))] trivial ?_)
 obtain ⟨r1, hr1, hm⟩ := bind_open hm
 refine DW.seq (RD hnt (nn 2 (.call 135 [] true (.p (.tup [.agg (encNode r1.1), vb r1.2])) [] [] :: nn 6 [])) [] [(5, rr 1040), (6, pB r1.2)] [] [(1040, bx (pm (encNode r1.1)))] (an (Find_ref5Spec p0 p1 r1 hr1) trivial) ?_)
 refine DW.seq (DW.seq (RD hnt (nn 2 []) [6] [(15, pB (!r1.2))] [] [] trivial ?_))
 refine condM hm ?_ ?_
 ·intro h2 hm
  refine DW.seq (RK hnt (.no :: []) [(4, pI 0)] [] trivial ?_)
  refine DW.ret ?_
  obtain rfl := Option.some.inj hm
  exact retK [] [] (pI 0)
 ·intro h2 hm
  refine DW.skip ?_
  refine DW.seq (RD hnt (.no :: []) [15] [(7, pI 31)] [] [] trivial ?_)
  refine DW.seq (DW.seq (RD hnt (nn 2 []) [] [(17, pB (p1 != 1))] [] [] trivial ?_))
  refine DW.join (ι := Int) (fun (y1 : Int) => mkSt [(5, rr 1040), (7, pI y1)] [(1040, bx (pm (encNode r1.1)))]) (fun y1 => (Available_ref7J1 r1) y1 = some RES) ?_ ?_
  ·intro y1 hm
   unfold Available_ref7J1 at hm
   refine DW.seq (DW.seq (RK hnt (nn 3 []) [(7, pI y1), (23, pB (r1.1.kind == 1))] [] trivial ?_))
   refine DW.join (ι := Int) (fun (y2 : Int) => mkSt [(7, pI y2)] []) (fun y2 => Available_ref7J2 y2 = some RES) ?_ ?_
   ·intro y2 hm
    unfold Available_ref7J2 at hm
    refine DW.seq (RK hnt (nn 2 []) [(4, pI y2)] [] trivial ?_)
    refine DW.ret ?_
    obtain rfl := Option.some.inj hm
    exact retK [] [] (pI y2)
   ·refine condM hm ?_ ?_
    ·intro h5 hm
     refine RK hnt (nn 3 []) [(7, pI (kandNot .i64 y1 6))] [] trivial ?_
     exact joinDone (kandNot .i64 y1 6) hm .refl
    ·intro h5 hm
     refine DW.skip ?_
     exact joinDone y1 hm Conv.t0
  ·refine condM hm ?_ ?_
   ·intro h3 hm
    obtain ⟨r4, hr4, hm⟩ := bind_open hm
    refine RD hnt (nn 2 (.call 189 [] true (pI r4) [] [] :: .no :: [])) [1, 2, 17] [(7, pI r4)] [1016] [] (an (Acting_ref7Spec p0 p1 r4 hr4) trivial) ?_
    exact joinDone r4 hm Conv.eqK
   ·intro h3 hm
    refine DW.skip ?_
    exact joinDone 31 hm Conv.t0

abbrev c26e1 (p0 : Hierarchy) (k1 : Nat) := (p0.tasks.getD k1 (default : Task))
abbrev c26e2 (p0 : Hierarchy) : Nat × Obj := (1016, bx (pm (encHierarchy p0)))
theorem Tasks_ref6Spec (p0 : Hierarchy) (p1 : Int) (RES : List Int) (hm : Tasks_ref6 p0 p1 = some RES) : Spec Tryz.prog 26 [.p (.agg (encHierarchy p0)), pI p1] [] (ow 0 RES.length) [] [roI RES] := by
 unfold Tasks_ref6 at hm
 refine SO Tryz.func26 rfl rfl [(0, .p (.agg (encHierarchy p0))), (1, pI p1)] [] ?_
 intro cx hnt
 refine DW.seq (RK hnt (nn 2 []) [(1, pI p1), (2, rr 1016)] [(c26e2 p0)] trivial ?_)
 obtain ⟨r1, hr1, hm⟩ := bind_open hm
 refine DW.seq (DW.seq (RD hnt (.no :: .call 52 [] true (pB r1) [] [] :: .no :: []) [] [(9, pB (!r1))] [] [] (an (Check_ref6Spec p0 r1 hr1) trivial) ?_))
 refine condM hm ?_ ?_
 ·intro h2 hm
  refine DW.seq (RK hnt (.no :: []) [(4, .p (.sl .nil 0 0 (fun _ => [])))] [] trivial ?_)
  refine DW.conv (τ := mkSt [(4, ow 100000 0)] [(100000, ob0 (roI []))]) (Conv.trans (τ := mkSt [(4, ow 100000 0)] ((100000, ⟨0, .row 1 0 (elems encI 0 [])⟩) :: [])) (Conv.adopt 100000 1 (elems encI 0 []) rfl rfl (.cons (.one (.nil _ _)) (.rfl _)) (.rfl _)) Conv.t0) ?_
  refine DW.ret ?_
  obtain rfl := Option.some.inj hm
  exact retK [roI []] [100000] (ow 0 0)
 ·intro h2 hm
  refine DW.skip ?_
  refine DW.seq (RD hnt (.no :: []) [9] [(5, .p (.sl .nil 0 0 (fun _ => [])))] [] [] trivial ?_)
  refine DW.seq (DW.seq (RD hnt (.no :: []) [] [(6, pI 0)] [] [] trivial ?_))
  refine DW.block ?_
  obtain ⟨hc1, hm⟩ := guard_open hm
  refine DW.rangeO (fun (k1 : Nat) (s1 : List Int) => mkSt [(1, pI p1), (2, rr 1016), (5, ow 1264 s1.length), (6, pI ((k1 : Nat) : Int))] [(c26e2 p0), (1264, ob0 (roI s1))]) dTask hm (Conv.trans (τ := mkSt [(1, pI p1), (2, rr 1016), (5, .p (.sl .nil 0 0 (fun _ => []))), (6, pI 0)] [(c26e2 p0)]) Conv.eqK (Conv.trans (τ := mkSt [(1, pI p1), (2, rr 1016), (5, ow 1264 0), (6, pI 0)] ((1264, ⟨0, .row 1 0 (elems encI 0 [])⟩) :: [(c26e2 p0)])) (Conv.adopt 1264 1 (elems encI 0 []) rfl rfl (.cons (.one (.rfl _)) (.cons (.one (.rfl _)) (.cons (.one (.nil _ _)) (.cons (.one (.rfl _)) (.rfl _))))) (.rfl _)) Conv.t0)) ?_
  intro k1 s1 n1 hk1 hs1 he1
  refine DW.seq (DW.seq (RD hnt (nn 5 []) [] [(14, pB (decide (((k1 : Nat) : Int) < ((p0.tasks.length : Nat) : Int))))] [] [] trivial ?_))
  refine condK (decide (((k1 : Nat) : Int) < ((p0.tasks.length : Nat) : Int))) ?_ ?_
  ·intro h12
   have hlt1 : k1 < p0.tasks.length := by have := of_decide_eq_true h12; omega
   have hm := hs1 hlt1
   unfold Tasks_ref6L1 at hm
   refine DW.skip ?_
   refine DW.seq ?_
   refine DW.join (ι := List Int) (fun (y3 : List Int) => mkSt [(1, pI p1), (2, rr 1016), (5, ow 1264 y3.length), (6, pI ((k1 : Nat) : Int))] [(c26e2 p0), (1264, ob0 (roI y3))]) (fun y3 => (Tasks_ref6J3 n1) y3 = some RES) ?_ ?_
   ·intro y3 hm
    unfold Tasks_ref6J3 at hm
    refine RD hnt (nn 3 []) [] [(6, pI (w64 (((k1 : Nat) : Int) + 1)))] [] [] trivial ?_
    exact joinDone y3 ⟨hlt1, hm⟩ (Conv.tp [(6, pI (w64 (((k1 : Nat) : Int) + 1)))] [] (by kernel_rfl) (.cons rfl (.of_eq (congrArg pI (w64_succ hlt1 hc1))) .nil) .nil)
   ·refine DW.block ?_
    refine DW.seq (RD hnt (nn 8 []) [14] [(24, pB ((c26e1 p0 k1).group == p1))] [] [] (an (nn0 k1) (an (ltc hlt1) trivial)) ?_)
    refine condM hm ?_ ?_
    ·intro h13 hm
     obtain ⟨g14, hm⟩ := guard_open hm
     refine RN hnt (nn 10 []) [(1, pI p1), (2, rr 1016), (5, ow 1264 (s1 ++ [(c26e1 p0 k1).id]).length), (6, pI ((k1 : Nat) : Int))] [(c26e2 p0), (1264, ob0 (roI (s1 ++ [(c26e1 p0 k1).id])))] [(5, ow 1264 (s1.length + 1))] [(1264, .row 1 (s1.length + 1) (catF s1.length (elI s1) (cut 1 [vi (c26e1 p0 k1).id])))] (an (nn0 k1) (an (ltc hlt1) (an (by omega : (s1.length + 1) * 8 ≤ 140737488355328) trivial))) (by kernel_rfl) (.cons rfl (MLe.ownLen (enc := encI) (d := 0) (f := (catF s1.length (elI s1) (cut 1 [vi (c26e1 p0 k1).id]))) (RowIs.cat RowIs.elems (RowIs.lit (enc := encI) (d := 0) (n := 1) (f := (cut 1 [vi (c26e1 p0 k1).id])) [(c26e1 p0 k1).id] rfl (fun | 0, _ => rfl | n + 1, h => absurd h (by omega))))) .nil) (.cons rfl (BLe.typed (RowIs.cat RowIs.elems (RowIs.lit (enc := encI) (d := 0) (n := 1) (f := (cut 1 [vi (c26e1 p0 k1).id])) [(c26e1 p0 k1).id] rfl (fun | 0, _ => rfl | n + 1, h => absurd h (by omega))))) .nil) ?_
     exact blockDone (s1 ++ [(c26e1 p0 k1).id]) hm .refl
    ·intro h13 hm
     refine DW.skip ?_
     exact blockDone s1 hm Conv.t0
  ·intro h12
   have hge1 : ¬ k1 < p0.tasks.length := by have := of_decide_eq_false h12; omega
   have hm := he1 hge1
   unfold Tasks_ref6D1 at hm
   refine DW.exit ?_
   refine joinQ_exit ?_
   refine KQ_exit ?_
   refine blockQ_exit ?_
   show DW _ _ _ _ _
   refine DW.seq (RK hnt (nn 2 []) [(4, ow 1264 s1.length)] [(1264, ob0 (roI s1))] trivial ?_)
   refine DW.ret ?_
   obtain rfl := Option.some.inj hm
   exact retK [roI s1] [1264] (ow 0 s1.length)

abbrev c162e1 (p0 : Hierarchy) (k1 : Nat) := (p0.tree.nodes.getD k1 (default : Node))
theorem Sound_ref7Spec (p0 : Hierarchy) (RES : Bool) (hm : Sound_ref7 p0 = some RES) : Spec Tryz.prog 162 [.p (.agg (encHierarchy p0))] [] (pB RES) [] [] := by
 unfold Sound_ref7 at hm
 refine SO Tryz.func162 rfl rfl [(0, .p (.agg (encHierarchy p0)))] [] ?_
 intro cx hnt
 refine DW.seq (RK hnt (nn 2 []) [(1, rr 1008)] [(1008, bx (pm (encHierarchy p0)))] trivial ?_)
 obtain ⟨r1, hr1, hm⟩ := bind_open hm
 refine DW.seq (DW.seq (RD hnt (.no :: .call 52 [] true (pB r1) [] [] :: .no :: []) [] [(7, pB (!r1))] [] [] (an (Check_ref6Spec p0 r1 hr1) trivial) ?_))
 refine condM hm ?_ ?_
 ·intro h2 hm
  refine DW.seq (RK hnt (.no :: []) [(2, pB false)] [] trivial ?_)
  refine DW.ret ?_
  obtain rfl := Option.some.inj hm
  exact retK [] [] (pB false)
 ·intro h2 hm
  refine DW.skip ?_
  refine DW.seq (DW.seq (RD hnt (.no :: []) [7] [(3, pI 0)] [] [] trivial ?_))
  refine DW.block ?_
  obtain ⟨hc1, hm⟩ := guard_open hm
  refine DW.rangeO (fun (k1 : Nat) (s1 : Unit) => mkSt [(1, rr 1008), (3, pI ((k1 : Nat) : Int))] [(1008, bx (pm (encHierarchy p0)))]) dNode hm Conv.eqK ?_
  intro k1 s1 n1 hk1 hs1 he1
  refine DW.seq (DW.seq (RD hnt (nn 6 []) [] [(13, pB (decide (((k1 : Nat) : Int) < ((p0.tree.nodes.length : Nat) : Int))))] [] [] trivial ?_))
  refine condK (decide (((k1 : Nat) : Int) < ((p0.tree.nodes.length : Nat) : Int))) ?_ ?_
  ·intro h19
   have hlt1 : k1 < p0.tree.nodes.length := by have := of_decide_eq_true h19; omega
   have hm := hs1 hlt1
   unfold Sound_ref7L1 at hm
   refine DW.skip ?_
   refine DW.seq (DW.block ?_)
   refine DW.seq (RD hnt (nn 8 []) [13] [(4, rr 1032)] [] [(1032, bx (pm (encNode (c162e1 p0 k1))))] (an (nn0 k1) (an (ltc hlt1) trivial)) ?_)
   obtain ⟨r20, hr20, hm⟩ := bind_open hm
   refine DW.seq ?_
   refine DW.join (ι := Bool) (fun (y3 : Bool) => mkSt [(1, rr 1008), (3, pI ((k1 : Nat) : Int)), (49, pB y3)] [(1008, bx (pm (encHierarchy p0)))]) (fun y3 => (Sound_ref7J3 n1) y3 = some RES) ?_ ?_
   ·intro y3 hm
    unfold Sound_ref7J3 at hm
    refine condM hm ?_ ?_
    ·intro h25 hm
     refine DW.seq (RK hnt (.no :: []) [(2, pB false)] [] trivial ?_)
     refine DW.ret ?_
     obtain rfl := Option.some.inj hm
     exact retK [] [] (pB false)
    ·intro h25 hm
     refine DW.skip ?_
     refine DW.done ?_
     show DW _ _ _ _ _
     refine RD hnt (nn 3 []) [49] [(3, pI (w64 (((k1 : Nat) : Int) + 1)))] [] [] trivial ?_
     exact joinDone () ⟨hlt1, hm⟩ (Conv.tp [(3, pI (w64 (((k1 : Nat) : Int) + 1)))] [] (by kernel_rfl) (.cons rfl (.of_eq (congrArg pI (w64_succ hlt1 hc1))) .nil) .nil)
   ·rcases bt ((kandNot .i64 (c162e1 p0 k1).control r20) != 0) with h21 | h21
    ·replace hm := if_t h21 hm
     refine RD hnt (nn 6 (.call 174 [] true (pI r20) [] [] :: nn 3 (sk 17 (pT :: [])))) [4] [(49, pB true)] [1032] [] (an (Available_ref7Spec p0.tree (c162e1 p0 k1).id r20 hr20) (an2 h21 (an6 h21 trivial))) ?_
     exact joinDone true hm Conv.eqK
    ·replace hm := if_f h21 hm
     rcases bt ((c162e1 p0 k1).id != 1) with h22 | h22
     ·replace hm := if_t h22 hm
      rcases bt ((kand .i64 (c162e1 p0 k1).control 6) != 0) with h23 | h23
      ·replace hm := if_t h23 hm
       obtain ⟨r24, hr24, hm⟩ := bind_open hm
       refine RD hnt (nn 6 (.call 174 [] true (pI r20) [] [] :: nn 11 (pT :: nn 4 (.call 26 [] true (ow 0 r24.length) [] [roI r24] :: nn 2 (pT :: pF :: []))))) [4] [(49, pB (decide (((r24.length : Nat) : Int) > 0)))] [1032] [] (an (Available_ref7Spec p0.tree (c162e1 p0 k1).id r20 hr20) (an4 h21 (an4 h22 (an h21 (an h22 (an h21 (an4 h23 (an (Tasks_ref6Spec p0 (c162e1 p0 k1).id r24 hr24) (an2 h23 (an h21 (an h23 (an h21 trivial)))))))))))) ?_
       exact joinDone (decide (((r24.length : Nat) : Int) > 0)) hm Conv.eqK
      ·replace hm := if_f h23 hm
       refine RD hnt (nn 6 (.call 174 [] true (pI r20) [] [] :: nn 11 (pT :: .no :: sk 6 (pF :: pF :: [])))) [4] [(49, pB false)] [1032] [] (an (Available_ref7Spec p0.tree (c162e1 p0 k1).id r20 hr20) (an4 h21 (an4 h22 (an h21 (an h22 (an h21 (an6 h23 (an h21 (an h23 (an h21 trivial)))))))))) ?_
       exact joinDone false hm Conv.eqK
     ·replace hm := if_f h22 hm
      refine RD hnt (nn 6 (.call 174 [] true (pI r20) [] [] :: nn 7 (sk 4 (pF :: .no :: sk 6 (pF :: pF :: []))))) [4] [(49, pB false)] [1032] [] (an (Available_ref7Spec p0.tree (c162e1 p0 k1).id r20 hr20) (an4 h21 (an4 h22 (an h21 (an h22 (an h21 (an6 ff (an h21 (an ff (an h21 trivial)))))))))) ?_
      exact joinDone false hm Conv.eqK
  ·intro h19
   have hge1 : ¬ k1 < p0.tree.nodes.length := by have := of_decide_eq_false h19; omega
   have hm := he1 hge1
   unfold Sound_ref7D1 at hm
   refine DW.exit ?_
   refine joinQ_exit ?_
   refine KQ_exit ?_
   refine blockQ_exit ?_
   show DW _ _ _ _ _
   refine DW.seq (RK hnt (.no :: []) [(2, pB true)] [] trivial ?_)
   refine DW.ret ?_
   obtain rfl := Option.some.inj hm
   exact retK [] [] (pB true)

theorem Find_ref6Spec (p0 : Hierarchy) (p1 : Int) (RES : Task × Bool) (hm : Find_ref6 p0 p1 = some RES) : Spec Tryz.prog 53 [.p (.agg (encHierarchy p0)), pI p1] [] (.p (.tup [.agg (encTask RES.1), vb RES.2])) [] [] := by
 unfold Find_ref6 at hm
 refine SO Tryz.func53 rfl rfl [(0, .p (.agg (encHierarchy p0))), (1, pI p1)] [] ?_
 intro cx hnt
 refine DW.seq (RK hnt (nn 3 []) [(1, pI p1), (2, rr 1016), (4, rr 1032)] [(1016, bx (pm (encHierarchy p0))), (1032, bx [pI 0, pI 0, pI 0, pI 0])] trivial ?_)
 obtain ⟨r1, hr1, hm⟩ := bind_open hm
 refine DW.seq (DW.seq (RD hnt (.no :: .call 52 [] true (pB r1) [] [] :: .no :: []) [] [(9, pB (!r1))] [] [] (an (Check_ref6Spec p0 r1 hr1) trivial) ?_))
 refine condM hm ?_ ?_
 ·intro h2 hm
  refine DW.seq (RD hnt (nn 3 []) [1, 2, 9] [(5, pB false)] [1016] [] trivial ?_)
  refine DW.ret ?_
  obtain rfl := Option.some.inj hm
  exact retK [] [] (.p (.tup [.agg [vi 0, vi 0, vi 0, vi 0], vb false]))
 ·intro h2 hm
  refine DW.skip ?_
  refine DW.seq (DW.seq (RD hnt (.no :: []) [9] [(6, pI 0)] [] [] trivial ?_))
  refine DW.block ?_
  obtain ⟨hc1, hm⟩ := guard_open hm
  refine DW.rangeO (fun (k1 : Nat) (s1 : Unit) => mkSt [(1, pI p1), (2, rr 1016), (4, rr 1032), (6, pI ((k1 : Nat) : Int))] [(1016, bx (pm (encHierarchy p0))), (1032, bx [pI 0, pI 0, pI 0, pI 0])]) dTask hm Conv.eqK ?_
  intro k1 s1 n1 hk1 hs1 he1
  refine DW.seq (DW.seq (RD hnt (nn 5 []) [] [(15, pB (decide (((k1 : Nat) : Int) < ((p0.tasks.length : Nat) : Int))))] [] [] trivial ?_))
  refine condK (decide (((k1 : Nat) : Int) < ((p0.tasks.length : Nat) : Int))) ?_ ?_
  ·intro h11
   have hlt1 : k1 < p0.tasks.length := by have := of_decide_eq_true h11; omega
   have hm := hs1 hlt1
   unfold Find_ref6L1 at hm
   refine DW.skip ?_
   refine DW.seq (DW.block ?_)
   refine DW.seq (RD hnt (nn 8 []) [15] [(25, pB ((p0.tasks.getD k1 (default : Task)).id == p1))] [] [] (an (nn0 k1) (an (ltc hlt1) trivial)) ?_)
   refine condM hm ?_ ?_
   ·intro h12 hm
    refine DW.seq (RK hnt (nn 7 []) [(4, rr 1032), (5, pB true)] [(1032, bx (pm (encTask (p0.tasks.getD k1 (default : Task)))))] (an (nn0 k1) (an (ltc hlt1) trivial)) ?_)
    refine DW.ret ?_
    obtain rfl := Option.some.inj hm
    exact retK [] [] (.p (.tup [.agg (encTask (p0.tasks.getD k1 (default : Task))), vb true]))
   ·intro h12 hm
    refine DW.skip ?_
    refine DW.done ?_
    show DW _ _ _ _ _
    refine RD hnt (nn 3 []) [25] [(6, pI (w64 (((k1 : Nat) : Int) + 1)))] [] [] trivial ?_
    exact joinDone () ⟨hlt1, hm⟩ (Conv.tp [(6, pI (w64 (((k1 : Nat) : Int) + 1)))] [] (by kernel_rfl) (.cons rfl (.of_eq (congrArg pI (w64_succ hlt1 hc1))) .nil) .nil)
  ·intro h11
   have hge1 : ¬ k1 < p0.tasks.length := by have := of_decide_eq_false h11; omega
   have hm := he1 hge1
   unfold Find_ref6D1 at hm
   refine DW.exit ?_
   refine joinQ_exit ?_
   refine KQ_exit ?_
   refine blockQ_exit ?_
   show DW _ _ _ _ _
   refine DW.seq (RD hnt (nn 3 []) [1, 2, 6, 15] [(5, pB false)] [1016] [] trivial ?_)
   refine DW.ret ?_
   obtain rfl := Option.some.inj hm
   exact retK [] [] (.p (.tup [.agg [vi 0, vi 0, vi 0, vi 0], vb false]))

theorem Domain_ref8Spec (p0 : Tree) (p1 : Int) (RES : Int × Bool) (hm : Domain_ref8 p0 p1 = some RES) : Spec Tryz.prog 137 [.p (.agg (encTree p0)), pI p1] [] (.p (.tup [vi RES.1, vb RES.2])) [] [] := by
 unfold Domain_ref8 at hm
 refine SO Tryz.func137 rfl rfl [(0, .p (.agg (encTree p0))), (1, pI p1)] [] ?_
 intro cx hnt
 refine DW.seq (RK hnt (nn 3 []) [(1, pI p1), (2, rr 1016)] [(1016, bx (pm (encTree p0)))] trivial ?_)
 obtain ⟨r1, hr1, hm⟩ := bind_open hm
 refine DW.seq (RD hnt (nn 2 (.call 21 [] true (ow 0 r1.length) [] [roI r1] :: .no :: [])) [1] [(6, ow 1096 r1.length)] [] [(1096, ob0 (roI r1))] (an (Ancestors_ref5Spec p0 p1 r1 hr1) trivial) ?_)
 refine DW.seq (DW.seq (RD hnt (.no :: []) [] [(7, pI 0)] [] [] trivial ?_))
 refine DW.block ?_
 obtain ⟨hc1, hm⟩ := guard_open hm
 refine DW.rangeO (fun (k1 : Nat) (s1 : Unit) => mkSt [(2, rr 1016), (6, ow 1096 r1.length), (7, pI ((k1 : Nat) : Int))] [(1016, bx (pm (encTree p0))), (1096, ob0 (roI r1))]) 0 hm Conv.eqK ?_
 intro k1 s1 n1 hk1 hs1 he1
 refine DW.seq (DW.seq (RD hnt (nn 4 []) [] [(16, pB (decide (((k1 : Nat) : Int) < ((r1.length : Nat) : Int))))] [] [] trivial ?_))
 refine condK (decide (((k1 : Nat) : Int) < ((r1.length : Nat) : Int))) ?_ ?_
 ·intro h16
  have hlt1 : k1 < r1.length := by have := of_decide_eq_true h16; omega
  have hm := hs1 hlt1
  unfold Domain_ref8L1 at hm
  refine DW.skip ?_
  refine DW.seq (DW.block ?_)
  obtain ⟨r17, hr17, hm⟩ := bind_open hm
  refine DW.seq (RD hnt (nn 5 (.call 135 [] true (.p (.tup [.agg (encNode r17.1), vb r17.2])) [] [] :: nn 6 [])) [16] [(8, rr 1064)] [] [(1064, bx (pm (encNode r17.1)))] (an (nn0 k1) (an (ltc hlt1) (an (by omega : k1 < r1.length) (an (Find_ref5Spec p0 (r1.getD k1 0) r17 hr17) trivial)))) ?_)
  refine DW.seq (RD hnt (nn 3 []) [8] [(30, pB (r17.1.kind != 1))] [1064] [] trivial ?_)
  refine condM hm ?_ ?_
  ·intro h18 hm
   refine DW.seq (RK hnt (nn 6 []) [(4, pI (r1.getD k1 0)), (5, pB true)] [] (an (nn0 k1) (an (ltc hlt1) (an (by omega : k1 < r1.length) trivial))) ?_)
   refine DW.ret ?_
   obtain rfl := Option.some.inj hm
   exact retK [] [] (.p (.tup [vi (r1.getD k1 0), vb true]))
  ·intro h18 hm
   refine DW.skip ?_
   refine DW.done ?_
   show DW _ _ _ _ _
   refine RD hnt (nn 3 []) [30] [(7, pI (w64 (((k1 : Nat) : Int) + 1)))] [] [] trivial ?_
   exact joinDone () ⟨hlt1, hm⟩ (Conv.tp [(7, pI (w64 (((k1 : Nat) : Int) + 1)))] [] (by kernel_rfl) (.cons rfl (.of_eq (congrArg pI (w64_succ hlt1 hc1))) .nil) .nil)
 ·intro h16
  have hge1 : ¬ k1 < r1.length := by have := of_decide_eq_false h16; omega
  have hm := he1 hge1
  unfold Domain_ref8D1 at hm
  refine DW.exit ?_
  refine joinQ_exit ?_
  refine KQ_exit ?_
  refine blockQ_exit ?_
  show DW _ _ _ _ _
  refine DW.seq (RK hnt (nn 2 []) [(4, pI 0), (5, pB false)] [] trivial ?_)
  refine DW.ret ?_
  obtain rfl := Option.some.inj hm
  exact retK [] [] (.p (.tup [vi 0, vb false]))

theorem Type_ref8BSpec (rec : Tree → Int → Option Int) (ih : ∀ (p0 : Tree) (p1 : Int) (RES : Int), rec p0 p1 = some RES → Spec Tryz.prog 130 [.p (.agg (encTree p0)), pI p1] [] (pI RES) [] []) (p0 : Tree) (p1 : Int) (RES : Int) (hm : Type_ref8B rec p0 p1 = some RES) : Spec Tryz.prog 130 [.p (.agg (encTree p0)), pI p1] [] (pI RES) [] [] := by
 unfold Type_ref8B at hm
 refine SO Tryz.func130 rfl rfl [(0, .p (.agg (encTree p0))), (1, pI p1)] [] ?_
 intro cx hnt
 refine DW.seq (RK hnt (nn 2 []) [(1, pI p1), (2, rr 1016)] [(1016, bx (pm (encTree p0)))] trivial ?_)
 obtain ⟨r1, hr1, hm⟩ := bind_open hm
 refine DW.seq (RD hnt (nn 2 (.call 135 [] true (.p (.tup [.agg (encNode r1.1), vb r1.2])) [] [] :: nn 6 [])) [] [(5, rr 1040), (6, pB r1.2)] [] [(1040, bx (pm (encNode r1.1)))] (an (Find_ref5Spec p0 p1 r1 hr1) trivial) ?_)
 refine DW.seq (DW.seq (RD hnt (nn 2 []) [6] [(20, pB (!r1.2))] [] [] trivial ?_))
 refine condM hm ?_ ?_
 ·intro h2 hm
  refine DW.seq (RK hnt (.no :: []) [(4, pI 0)] [] trivial ?_)
  refine DW.ret ?_
  obtain rfl := Option.some.inj hm
  exact retK [] [] (pI 0)
 ·intro h2 hm
  refine DW.skip ?_
  refine DW.seq (DW.seq (RD hnt (nn 3 []) [20] [(23, pB (r1.1.kind == 1))] [] [] trivial ?_))
  refine condM hm ?_ ?_
  ·intro h3 hm
   refine DW.seq (RK hnt (.no :: []) [(4, pI 2)] [] trivial ?_)
   refine DW.ret ?_
   obtain rfl := Option.some.inj hm
   exact retK [] [] (pI 2)
  ·intro h3 hm
   refine DW.skip ?_
   obtain ⟨r4, hr4, hm⟩ := bind_open hm
   refine DW.seq (DW.seq (RD hnt (nn 3 (.call 135 [] true (.p (.tup [.agg (encNode r4.1), vb r4.2])) [] [] :: nn 6 [])) [5, 23] [(7, rr 1056), (8, pB r4.2)] [1040] [(1056, bx (pm (encNode r4.1)))] (an (Find_ref5Spec p0 r1.1.parent r4 hr4) trivial) ?_))
   refine DW.seq ?_
   refine DW.join (ι := Bool) (fun (y1 : Bool) => mkSt [(1, pI p1), (2, rr 1016), (43, pB y1)] [(1016, bx (pm (encTree p0)))]) (fun y1 => (Type_ref8J1 p0 p1) y1 = some RES) ?_ ?_
   ·intro y1 hm
    unfold Type_ref8J1 at hm
    refine condM hm ?_ ?_
    ·intro h8 hm
     refine DW.seq (RK hnt (.no :: []) [(4, pI 3)] [] trivial ?_)
     refine DW.ret ?_
     obtain rfl := Option.some.inj hm
     exact retK [] [] (pI 3)
    ·intro h8 hm
     refine DW.skip ?_
     obtain ⟨r9, hr9, hm⟩ := bind_open hm
     refine DW.seq (RD hnt (nn 2 (.call 27 [] true (ow 0 r9.length) [] [roI r9] :: .no :: [])) [1, 43] [(9, ow 1368 r9.length)] [] [(1368, ob0 (roI r9))] (an (Children_ref5Spec p0 p1 r9 hr9) trivial) ?_)
     refine DW.seq (DW.seq (RD hnt (.no :: []) [] [(10, pI 0)] [] [] trivial ?_))
     refine DW.block ?_
     obtain ⟨hc1, hm⟩ := guard_open hm
     refine DW.rangeO (fun (k1 : Nat) (s1 : Unit) => mkSt [(2, rr 1016), (9, ow 1368 r9.length), (10, pI ((k1 : Nat) : Int))] [(1016, bx (pm (encTree p0))), (1368, ob0 (roI r9))]) 0 hm Conv.eqK ?_
     intro k1 s1 n1 hk1 hs1 he1
     refine DW.seq (DW.seq (RD hnt (nn 4 []) [] [(50, pB (decide (((k1 : Nat) : Int) < ((r9.length : Nat) : Int))))] [] [] trivial ?_))
     refine condK (decide (((k1 : Nat) : Int) < ((r9.length : Nat) : Int))) ?_ ?_
     ·intro h20
      have hlt1 : k1 < r9.length := by have := of_decide_eq_true h20; omega
      have hm := hs1 hlt1
      unfold Type_ref8L1 at hm
      refine DW.skip ?_
      refine DW.seq (DW.block ?_)
      obtain ⟨r21, hr21, hm⟩ := bind_open hm
      refine DW.seq (RD hnt (nn 5 (.call 135 [] true (.p (.tup [.agg (encNode r21.1), vb r21.2])) [] [] :: nn 6 [])) [50] [(11, rr 1088)] [] [(1088, bx (pm (encNode r21.1)))] (an (nn0 k1) (an (ltc hlt1) (an (by omega : k1 < r9.length) (an (Find_ref5Spec p0 (r9.getD k1 0) r21 hr21) trivial)))) ?_)
      refine DW.seq (RD hnt (nn 3 []) [11] [(64, pB (r21.1.kind == 1))] [1088] [] trivial ?_)
      refine condM hm ?_ ?_
      ·intro h22 hm
       refine DW.seq (RK hnt (.no :: []) [(4, pI 1)] [] trivial ?_)
       refine DW.ret ?_
       obtain rfl := Option.some.inj hm
       exact retK [] [] (pI 1)
      ·intro h22 hm
       refine DW.skip ?_
       refine DW.done ?_
       show DW _ _ _ _ _
       refine RD hnt (nn 3 []) [64] [(10, pI (w64 (((k1 : Nat) : Int) + 1)))] [] [] trivial ?_
       exact joinDone () ⟨hlt1, hm⟩ (Conv.tp [(10, pI (w64 (((k1 : Nat) : Int) + 1)))] [] (by kernel_rfl) (.cons rfl (.of_eq (congrArg pI (w64_succ hlt1 hc1))) .nil) .nil)
     ·intro h20
      have hge1 : ¬ k1 < r9.length := by have := of_decide_eq_false h20; omega
      have hm := he1 hge1
      unfold Type_ref8D1 at hm
      refine DW.exit ?_
      refine joinQ_exit ?_
      refine KQ_exit ?_
      refine blockQ_exit ?_
      show DW _ _ _ _ _
      refine DW.seq (RK hnt (.no :: []) [(4, pI 0)] [] trivial ?_)
      refine DW.ret ?_
      obtain rfl := Option.some.inj hm
      exact retK [] [] (pI 0)
   ·rcases bt r4.2 with h5 | h5
    ·replace hm := if_t h5 hm
     rcases bt (r4.1.kind == 1) with h6 | h6
     ·replace hm := if_t h6 hm
      refine RD hnt (nn 6 (sk 5 (pT :: pT :: []))) [7, 8] [(43, pB true)] [1056] [] (an4 h5 (an5 h6 (an h5 (an h6 (an h5 trivial))))) ?_
      exact joinDone true hm Conv.eqK
     ·replace hm := if_f h6 hm
      obtain ⟨r7, hr7, hm⟩ := bind_open hm
      refine RD hnt (nn 9 (.call 130 [] true (pI r7) [] [] :: .no :: pF :: pT :: [])) [7, 8] [(43, pB (r7 == 3))] [1056] [] (an4 h5 (an4 h6 (an (ih p0 r4.1.id r7 hr7) (an h6 (an h5 (an h6 (an h5 trivial))))))) ?_
      exact joinDone (r7 == 3) hm Conv.eqK
    ·replace hm := if_f h5 hm
     refine RD hnt (nn 2 (sk 10 (pF :: []))) [7, 8] [(43, pB false)] [1056] [] (an6 h5 trivial) ?_
     exact joinDone false hm Conv.eqK
theorem Type_ref8FSpec : ∀ (n : Nat) (p0 : Tree) (p1 : Int) (RES : Int), Type_ref8F n p0 p1 = some RES → Spec Tryz.prog 130 [.p (.agg (encTree p0)), pI p1] [] (pI RES) [] []
  | 0, p0, p1, RES, hm => by simp [Type_ref8F] at hm
  | n + 1, p0, p1, RES, hm => Type_ref8BSpec (Type_ref8F n) (Type_ref8FSpec n) p0 p1 RES hm
theorem Type_ref8Spec (p0 : Tree) (p1 : Int) (RES : Int) (hm : Type_ref8 p0 p1 = some RES) : Spec Tryz.prog 130 [.p (.agg (encTree p0)), pI p1] [] (pI RES) [] [] := Type_ref8FSpec FUEL p0 p1 RES hm

abbrev c129e1 (p0 : Hierarchy) (k4 : Nat) := (p0.tree.nodes.getD k4 (default : Node))
abbrev c129e2 (p0 : Hierarchy) : Nat × Obj := (1008, bx (pm (encHierarchy p0)))
theorem Fits_ref8Spec (p0 : Hierarchy) (RES : Bool) (hm : Fits_ref8 p0 = some RES) : Spec Tryz.prog 129 [.p (.agg (encHierarchy p0))] [] (pB RES) [] [] := by
 unfold Fits_ref8 at hm
 refine SO Tryz.func129 rfl rfl [(0, .p (.agg (encHierarchy p0)))] [] ?_
 intro cx hnt
 refine DW.seq (RK hnt (nn 2 []) [(1, rr 1008)] [(c129e2 p0)] trivial ?_)
 obtain ⟨r1, hr1, hm⟩ := bind_open hm
 refine DW.seq (DW.seq (RD hnt (.no :: .call 162 [] true (pB r1) [] [] :: .no :: []) [] [(16, pB (!r1))] [] [] (an (Sound_ref7Spec p0 r1 hr1) trivial) ?_))
 refine condM hm ?_ ?_
 ·intro h2 hm
  refine DW.seq (RK hnt (.no :: []) [(2, pB false)] [] trivial ?_)
  refine DW.ret ?_
  obtain rfl := Option.some.inj hm
  exact retK [] [] (pB false)
 ·intro h2 hm
  refine DW.skip ?_
  refine DW.seq (DW.seq (RD hnt (.no :: []) [16] [(3, pI 0)] [] [] trivial ?_))
  refine DW.block ?_
  obtain ⟨hc1, hm⟩ := guard_open hm
  refine DW.rangeO (fun (k1 : Nat) (s1 : Unit) => mkSt [(1, rr 1008), (3, pI ((k1 : Nat) : Int))] [(c129e2 p0)]) dTask hm Conv.eqK ?_
  intro k1 s1 n1 hk1 hs1 he1
  refine DW.seq (DW.seq (RD hnt (nn 5 []) [] [(21, pB (decide (((k1 : Nat) : Int) < ((p0.tasks.length : Nat) : Int))))] [] [] trivial ?_))
  refine condK (decide (((k1 : Nat) : Int) < ((p0.tasks.length : Nat) : Int))) ?_ ?_
  ·intro h99
   have hlt1 : k1 < p0.tasks.length := by have := of_decide_eq_true h99; omega
   have hm := hs1 hlt1
   unfold Fits_ref8L1 at hm
   refine DW.skip ?_
   refine DW.seq (DW.block ?_)
   obtain ⟨r100, hr100, hm⟩ := bind_open hm
   refine DW.seq (RD hnt (nn 7 (.call 53 [] true (.p (.tup [.agg (encTask r100.1), vb r100.2])) [] [] :: nn 6 [])) [21] [(4, rr 1032)] [] [(1032, bx (pm (encTask r100.1)))] (an (nn0 k1) (an (ltc hlt1) (an (Find_ref6Spec p0 (p0.tasks.getD k1 (default : Task)).process r100 hr100) trivial))) ?_)
   obtain ⟨r101, hr101, hm⟩ := bind_open hm
   refine DW.seq (RD hnt (nn 8 (.call 137 [] true (.p (.tup [vi r101.1, vb r101.2])) [] [] :: nn 5 [])) [] [(6, pI r101.1)] [] [] (an (nn0 k1) (an (ltc hlt1) (an (Domain_ref8Spec p0.tree (p0.tasks.getD k1 (default : Task)).group r101 hr101) trivial))) ?_)
   obtain ⟨r102, hr102, hm⟩ := bind_open hm
   refine DW.seq (RD hnt (nn 4 (.call 137 [] true (.p (.tup [vi r102.1, vb r102.2])) [] [] :: nn 5 [])) [4] [(8, pI r102.1)] [1032] [] (an (Domain_ref8Spec p0.tree r100.1.group r102 hr102) trivial) ?_)
   refine DW.seq (RD hnt (nn 3 []) [6, 8] [(57, pB (r101.1 != r102.1))] [] [] trivial ?_)
   refine condM hm ?_ ?_
   ·intro h103 hm
    refine DW.seq (RK hnt (.no :: []) [(2, pB false)] [] trivial ?_)
    refine DW.ret ?_
    obtain rfl := Option.some.inj hm
    exact retK [] [] (pB false)
   ·intro h103 hm
    refine DW.skip ?_
    refine DW.done ?_
    show DW _ _ _ _ _
    refine RD hnt (nn 3 []) [57] [(3, pI (w64 (((k1 : Nat) : Int) + 1)))] [] [] trivial ?_
    exact joinDone () ⟨hlt1, hm⟩ (Conv.tp [(3, pI (w64 (((k1 : Nat) : Int) + 1)))] [] (by kernel_rfl) (.cons rfl (.of_eq (congrArg pI (w64_succ hlt1 hc1))) .nil) .nil)
  ·intro h99
   have hge1 : ¬ k1 < p0.tasks.length := by have := of_decide_eq_false h99; omega
   have hm := he1 hge1
   unfold Fits_ref8D1 at hm
   refine DW.exit ?_
   refine joinQ_exit ?_
   refine KQ_exit ?_
   refine blockQ_exit ?_
   show DW _ _ _ _ _
   refine DW.seq (DW.seq (RD hnt (.no :: []) [3, 21] [(10, pI 0)] [] [] trivial ?_))
   refine DW.block ?_
   obtain ⟨hc4, hm⟩ := guard_open hm
   refine DW.rangeO (fun (k4 : Nat) (s4 : Unit) => mkSt [(1, rr 1008), (10, pI ((k4 : Nat) : Int))] [(c129e2 p0)]) dNode hm Conv.eqK ?_
   intro k4 s4 n4 hk4 hs4 he4
   refine DW.seq (DW.seq (RD hnt (nn 6 []) [] [(63, pB (decide (((k4 : Nat) : Int) < ((p0.tree.nodes.length : Nat) : Int))))] [] [] trivial ?_))
   refine condK (decide (((k4 : Nat) : Int) < ((p0.tree.nodes.length : Nat) : Int))) ?_ ?_
   ·intro h132
    have hlt4 : k4 < p0.tree.nodes.length := by have := of_decide_eq_true h132; omega
    have hm := hs4 hlt4
    unfold Fits_ref8L4 at hm
    refine DW.skip ?_
    refine DW.seq (DW.block ?_)
    refine DW.seq (RD hnt (nn 8 []) [63] [(11, rr 1088)] [] [(1088, bx (pm (encNode (c129e1 p0 k4))))] (an (nn0 k4) (an (ltc hlt4) trivial)) ?_)
    obtain ⟨r133, hr133, hm⟩ := bind_open hm
    refine DW.seq (RD hnt (nn 4 (.call 135 [] true (.p (.tup [.agg (encNode r133.1), vb r133.2])) [] [] :: nn 6 [])) [] [(12, rr 1096)] [] [(1096, bx (pm (encNode r133.1)))] (an (Find_ref5Spec p0.tree (c129e1 p0 k4).parent r133 hr133) trivial) ?_)
    obtain ⟨r134, hr134, hm⟩ := bind_open hm
    refine DW.seq (DW.seq ?_)
    refine DW.join (ι := Bool) (fun (y17 : Bool) => mkSt [(1, rr 1008), (10, pI ((k4 : Nat) : Int)), (11, rr 1088), (12, rr 1096), (98, pB y17)] [(c129e2 p0), (1088, bx (pm (encNode (c129e1 p0 k4)))), (1096, bx (pm (encNode r133.1)))]) (fun y17 => (Fits_ref8J17 p0 (c129e1 p0 k4) n4 r133) y17 = some RES) ?_ ?_
    ·intro y17 hm
     unfold Fits_ref8J17 at hm
     refine condM hm ?_ ?_
     ·intro h138 hm
      refine DW.seq (RK hnt (.no :: []) [(2, pB false)] [] trivial ?_)
      refine DW.ret ?_
      obtain rfl := Option.some.inj hm
      exact retK [] [] (pB false)
     ·intro h138 hm
      refine DW.skip ?_
      refine DW.seq ?_
      refine DW.join (ι := Bool) (fun (y18 : Bool) => mkSt [(1, rr 1008), (10, pI ((k4 : Nat) : Int)), (120, pB y18)] [(c129e2 p0)]) (fun y18 => (Fits_ref8J18 n4) y18 = some RES) ?_ ?_
      ·intro y18 hm
       unfold Fits_ref8J18 at hm
       refine condM hm ?_ ?_
       ·intro h144 hm
        refine DW.seq (RK hnt (.no :: []) [(2, pB false)] [] trivial ?_)
        refine DW.ret ?_
        obtain rfl := Option.some.inj hm
        exact retK [] [] (pB false)
       ·intro h144 hm
        refine DW.skip ?_
        refine DW.done ?_
        show DW _ _ _ _ _
        refine RD hnt (nn 3 []) [120] [(10, pI (w64 (((k4 : Nat) : Int) + 1)))] [] [] trivial ?_
        exact joinDone () ⟨hlt4, hm⟩ (Conv.tp [(10, pI (w64 (((k4 : Nat) : Int) + 1)))] [] (by kernel_rfl) (.cons rfl (.of_eq (congrArg pI (w64_succ hlt4 hc4))) .nil) .nil)
      ·rcases bt ((c129e1 p0 k4).kind == 1) with h139 | h139
       ·replace hm := if_t h139 hm
        rcases bt (r133.1.id != 1) with h140 | h140
        ·replace hm := if_t h140 hm
         rcases bt ((kand .i64 r133.1.control 6) != 0) with h141 | h141
         ·replace hm := if_t h141 hm
          refine RD hnt (nn 12 (pT :: .no :: sk 6 (pT :: pT :: []))) [11, 12, 98] [(120, pB true)] [1088, 1096] [] (an4 h139 (an4 h140 (an h139 (an h140 (an h139 (an6 h141 (an h139 (an h141 (an h139 trivial))))))))) ?_
          exact joinDone true hm Conv.eqK
         ·replace hm := if_f h141 hm
          obtain ⟨r142, hr142, hm⟩ := bind_open hm
          refine RD hnt (nn 12 (pT :: nn 5 (.call 130 [] true (pI r142) [] [] :: .no :: pF :: pT :: []))) [11, 12, 98] [(120, pB (r142 == 3))] [1088, 1096] [] (an4 h139 (an4 h140 (an h139 (an h140 (an h139 (an5 h141 (an (Type_ref8Spec p0.tree r133.1.id r142 hr142) (an h141 (an h139 (an h141 (an h139 trivial))))))))))) ?_
          exact joinDone (r142 == 3) hm Conv.eqK
        ·replace hm := if_f h140 hm
         obtain ⟨r143, hr143, hm⟩ := bind_open hm
         refine RD hnt (nn 8 (sk 4 (pF :: nn 5 (.call 130 [] true (pI r143) [] [] :: .no :: pF :: pT :: [])))) [11, 12, 98] [(120, pB (r143 == 3))] [1088, 1096] [] (an4 h139 (an4 h140 (an h139 (an h140 (an h139 (an5 ff (an (Type_ref8Spec p0.tree r133.1.id r143 hr143) (an ff (an h139 (an ff (an h139 trivial))))))))))) ?_
         exact joinDone (r143 == 3) hm Conv.eqK
       ·replace hm := if_f h139 hm
        refine RD hnt (nn 4 (sk 17 (pF :: []))) [11, 12, 98] [(120, pB false)] [1088, 1096] [] (an2 h139 (an6 h139 trivial)) ?_
        exact joinDone false hm Conv.eqK
    ·rcases bt (r134 == 3) with h135 | h135
     ·replace hm := if_t h135 hm
      rcases bt ((c129e1 p0 k4).control != 0) with h136 | h136
      ·replace hm := if_t h136 hm
       refine RD hnt (nn 4 (.call 130 [] true (pI r134) [] [] :: nn 6 (sk 6 (pT :: pT :: [])))) [] [(98, pB true)] [] [] (an (Type_ref8Spec p0.tree (c129e1 p0 k4).id r134 hr134) (an4 h135 (an6 h136 (an h135 (an h136 (an h135 trivial)))))) ?_
       exact joinDone true hm Conv.eqK
      ·replace hm := if_f h136 hm
       obtain ⟨r137, hr137, hm⟩ := bind_open hm
       refine RD hnt (nn 4 (.call 130 [] true (pI r134) [] [] :: nn 9 (.call 26 [] true (ow 0 r137.length) [] [roI r137] :: nn 2 (pF :: pT :: [])))) [] [(98, pB (decide (((r137.length : Nat) : Int) > 0)))] [] [] (an (Type_ref8Spec p0.tree (c129e1 p0 k4).id r134 hr134) (an4 h135 (an4 h136 (an (Tasks_ref6Spec p0 (c129e1 p0 k4).id r137 hr137) (an2 h136 (an h135 (an h136 (an h135 trivial)))))))) ?_
       exact joinDone (decide (((r137.length : Nat) : Int) > 0)) hm Conv.eqK
     ·replace hm := if_f h135 hm
      refine RD hnt (nn 4 (.call 130 [] true (pI r134) [] [] :: nn 2 (sk 11 (pF :: [])))) [] [(98, pB false)] [] [] (an (Type_ref8Spec p0.tree (c129e1 p0 k4).id r134 hr134) (an6 h135 trivial)) ?_
      exact joinDone false hm Conv.eqK
   ·intro h132
    have hge4 : ¬ k4 < p0.tree.nodes.length := by have := of_decide_eq_false h132; omega
    have hm := he4 hge4
    unfold Fits_ref8D4 at hm
    refine DW.exit ?_
    refine joinQ_exit ?_
    refine KQ_exit ?_
    refine blockQ_exit ?_
    show DW _ _ _ _ _
    refine DW.seq (RK hnt (.no :: []) [(2, pB true)] [] trivial ?_)
    refine DW.ret ?_
    obtain rfl := Option.some.inj hm
    exact retK [] [] (pB true)

theorem Set_ref7Spec (p0 : Int) (RES : Bool) (hm : Set_ref7 p0 = some RES) : Spec Tryz.prog 175 [pI p0] [] (pB RES) [] [] := by
 unfold Set_ref7 at hm
 refine SO Tryz.func175 rfl rfl [(0, pI p0)] [] ?_
 intro cx hnt
 refine DW.seq (RK hnt (.no :: []) [(0, pI p0)] [] trivial ?_)
 refine DW.seq (DW.regJ (sl2 := [(2, pB ((decide (p0 ≥ 0)) && (decide (p0 ≤ 31))))]) (ob2 := []) ?_ ?_)
 ·rcases bt (decide (p0 ≥ 0)) with h1 | h1
  ·exact RT hnt (nn 5 (pT :: .no :: [])) [(2, pB (decide (p0 ≤ 31)))] (an3 h1 trivial) (by kernel_rfl) (.cons rfl (.of_eq (by rw [h1]; try rfl)) .nil)
  ·exact RT hnt (nn 3 (sk 2 (pF :: .no :: []))) [(2, pB false)] (an3 h1 trivial) (by kernel_rfl) (.cons rfl (.of_eq (by rw [h1]; try rfl)) .nil)
 ·refine DW.ret ?_
  obtain rfl := Option.some.inj hm
  exact retK [] [] (pB ((decide (p0 ≥ 0)) && (decide (p0 ≤ 31))))

theorem Copy_ref6Spec (p0 : Hierarchy) (RES : Hierarchy) (hm : Copy_ref6 p0 = some RES) : Spec Tryz.prog 105 [.p (.agg (encHierarchy p0))] [] (.agg [ow 0 RES.tree.nodes.length, pI RES.tree.next, ow 1 RES.tasks.length, pI RES.next]) [] [roNode RES.tree.nodes, roTask RES.tasks] := by
 unfold Copy_ref6 at hm
 refine SO Tryz.func105 rfl rfl [(0, .p (.agg (encHierarchy p0)))] [] ?_
 intro cx hnt
 refine DW.seq (RK hnt (nn 2 []) [(1, rr 1008), (2, rr 1016)] [(1008, bx (pm (encHierarchy p0))), (1016, bx [.p (.sl .nil 0 0 (fun _ => [])), pI 0, .p (.sl .nil 0 0 (fun _ => [])), pI 0])] trivial ?_)
 obtain ⟨r1, hr1, hm⟩ := bind_open hm
 obtain ⟨g2, hm⟩ := guard_open hm
 refine DW.seq (RN hnt (nn 2 (.call 122 [] true (.agg [ow 0 r1.nodes.length, pI r1.next]) [] [roNode r1.nodes] :: nn 7 [])) [(2, rr 1016)] [(1016, bx [ow 1040 r1.nodes.length, pI r1.next, ow 1064 p0.tasks.length, pI p0.next]), (1040, ob0 (roNode r1.nodes)), (1064, ob0 (roTask p0.tasks))] [] [(1064, .row 4 p0.tasks.length (elTask p0.tasks))] (an (Copy_ref5Spec p0.tree r1 hr1) (an (by omega : p0.tasks.length * 32 ≤ 140737488355328) trivial)) (by kernel_rfl) .nil (.cons rfl (BLe.typed RowIs.elems) .nil) ?_)
 refine DW.ret ?_
 obtain rfl := Option.some.inj hm
 exact retK [roNode r1.nodes, roTask p0.tasks] [1040, 1064] (.agg [ow 0 r1.nodes.length, pI r1.next, ow 1 p0.tasks.length, pI p0.next])
end Go.Dm

