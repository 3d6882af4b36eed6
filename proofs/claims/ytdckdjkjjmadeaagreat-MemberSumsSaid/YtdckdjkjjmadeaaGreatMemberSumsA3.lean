/- Texts of the proof of MemberSums: the data machine, the models of the Go functions, their contracts. -/
import Derived.Test.YtdckdjkjjmadeaaGreatMemberSumsA2
import Derived.Test.YtdckdjkjjmadeaaGreatMemberSumsA1
import Derived.Test.YtdckdjkjjmadeaaGreatProg
set_option linter.unusedVariables false
set_option linter.unusedSimpArgs false
/- Plain theory, part 20: the library's sort leaves an ascending list as it is. -/
namespace Go.Dm
theorem less_eq (a b : Int) : Less_cmp_int a b = some (decide (a < b)) := by
 unfold Less_cmp_int isNaN_cmp_int Less_cmp_intJ1
 simp
theorem asc_at {L : List Int} (h : L.Pairwise (· < ·)) {i j : Nat} (hij : i < j) (hj : j < L.length) : L.getD i 0 < L.getD j 0 := by
 rw [getD_lt hj, getD_lt (by omega)]
 exact List.pairwise_iff_getElem.mp h i j (by omega) hj hij
theorem asc_not {L : List Int} (h : L.Pairwise (· < ·)) {i j : Nat} (hij : i < j) (hj : j < L.length) : decide (L.getD j 0 < L.getD i 0) = false := by
 have := asc_at h hij hj
 rw [decide_eq_false_iff_not]
 omega
theorem insertion_asc {L : List Int} (h : L.Pairwise (· < ·)) (hl : L.length ≤ 1000000) : insertionSortOrdered_slices_int L 0 (L.length : Int) = some L := by
 apply Ok.eq
 unfold insertionSortOrdered_slices_int
 have e1 : w64 (0 + 1) = 1 := w64_id (by omega) (by omega)
 rw [e1]
 refine Ok.guard (by omega) ?_
 refine Ok.for (fun _ s => s = L) rfl ?_ ?_
 ·intro j s n hj hs hn
  subst hs
  unfold insertionSortOrdered_slices_intL1
  refine Ok.while (fun q => q = (s, 1 + (j : Int))) (fun _ => 0) rfl (by rw [FUEL_eq]; omega) ?_
  intro q nn hq _
  subst hq
  unfold insertionSortOrdered_slices_intL4 insertionSortOrdered_slices_intJ6
  simp only
  have hw : w64 (1 + (j : Int) - 1) = (j : Int) := by
   rw [w64_id (by omega) (by omega)]
   omega
  have ej : Int.toNat (j : Int) = j := by omega
  have ej1 : Int.toNat (1 + (j : Int)) = j + 1 := by omega
  rw [hw, ej, ej1, less_eq, asc_not h (show j < j + 1 by omega) (by omega)]
  refine Ok.ite (fun _ => ?_) fun _ => hn _ rfl
  refine Ok.guard (by omega) (Ok.guard (by omega) (Ok.guard (by omega) (Ok.guard (by omega) ?_)))
  exact Ok.step rfl (hn _ rfl)
 ·intro s hs
  subst hs
  exact Ok.ret rfl
theorem order2_asc {L : List Int} (h : L.Pairwise (· < ·)) {a b : Nat} (hab : a < b) (hb : b < L.length) (c : Int) : order2Ordered_slices_int L (a : Int) (b : Int) c = some ((a : Int), (b : Int), c) := by
 unfold order2Ordered_slices_int
 have ea : Int.toNat (a : Int) = a := by omega
 have eb : Int.toNat (b : Int) = b := by omega
 rw [if_pos (by omega), if_pos (by omega), ea, eb, less_eq, asc_not h hab hb]
 rfl
theorem median_asc {L : List Int} (h : L.Pairwise (· < ·)) {a b c : Nat} (hab : a < b) (hbc : b < c) (hc : c < L.length) (k : Int) : medianOrdered_slices_int L (a : Int) (b : Int) (c : Int) k = some ((b : Int), k) := by
 unfold medianOrdered_slices_int
 rw [order2_asc h hab (by omega), Option.bind_some, order2_asc h hbc hc, Option.bind_some, order2_asc h hab (by omega)]
 rfl
theorem adjacent_asc {L : List Int} (h : L.Pairwise (· < ·)) {a : Nat} (h0 : 0 < a) (ha : a + 1 < L.length) (hl : L.length ≤ 1000000) (k : Int) : medianAdjacentOrdered_slices_int L (a : Int) k = some ((a : Int), k) := by
 unfold medianAdjacentOrdered_slices_int
 have e1 : w64 ((a : Int) - 1) = ((a - 1 : Nat) : Int) := by
  rw [w64_id (by omega) (by omega)]
  omega
 have e2 : w64 ((a : Int) + 1) = ((a + 1 : Nat) : Int) := by
  rw [w64_id (by omega) (by omega)]
  omega
 rw [e1, e2, median_asc h (by omega) (by omega) ha]
 rfl
theorem pivot_asc {L : List Int} (h : L.Pairwise (· < ·)) (h12 : 12 < L.length) (hl : L.length ≤ 1000000) : Ok (choosePivotOrdered_slices_int L 0 (L.length : Int)) (fun r => r.2 = 1) := by
 unfold choosePivotOrdered_slices_int
 have e0 : w64 ((L.length : Int) - 0) = (L.length : Int) := by
  rw [w64_id (by omega) (by omega)]
  omega
 rw [e0]
 have eq : w64 (Int.tdiv (L.length : Int) 4) = ((L.length / 4 : Nat) : Int) := by
  rw [Int.tdiv_eq_ediv_of_nonneg (by omega), w64_id (by omega) (by omega)]
  omega
 rw [eq]
 have hq : 3 ≤ L.length / 4 := by omega
 have hq2 : 4 * (L.length / 4) ≤ L.length := by omega
 generalize L.length / 4 = q at *
 have m1 : w64 (0 + w64 ((q : Int) * 1)) = (q : Int) := by
  rw [w64_id (n := (q : Int) * 1) (by omega) (by omega), w64_id (by omega) (by omega)]
  omega
 have m2 : w64 (0 + w64 ((q : Int) * 2)) = ((2 * q : Nat) : Int) := by
  rw [w64_id (n := (q : Int) * 2) (by omega) (by omega), w64_id (by omega) (by omega)]
  omega
 have m3 : w64 (0 + w64 ((q : Int) * 3)) = ((3 * q : Nat) : Int) := by
  rw [w64_id (n := (q : Int) * 3) (by omega) (by omega), w64_id (by omega) (by omega)]
  omega
 rw [m1, m2, m3]
 unfold choosePivotOrdered_slices_intJ2 choosePivotOrdered_slices_intJ1
 refine Ok.ite (fun _ => ?_) fun c => ?_
 ·refine Ok.ite (fun c => ?_) fun _ => ?_
  ·have := of_decide_eq_true c
   refine Ok.step (adjacent_asc h (by omega) (by omega) hl 0) ?_
   refine Ok.step (adjacent_asc h (by omega) (by omega) hl 0) ?_
   refine Ok.step (adjacent_asc h (by omega) (by omega) hl 0) ?_
   exact Ok.step (median_asc h (by omega) (by omega) (by omega) 0) (Ok.ret rfl)
  ·exact Ok.step (median_asc h (by omega) (by omega) (by omega) 0) (Ok.ret rfl)
 ·have := of_decide_eq_false c
  omega
theorem partial_asc {L : List Int} (h : L.Pairwise (· < ·)) (h1 : 1 ≤ L.length) (hl : L.length ≤ 1000000) : partialInsertionSortOrdered_slices_int L 0 (L.length : Int) = some (true, L) := by
 apply Ok.eq
 unfold partialInsertionSortOrdered_slices_int
 have e1 : w64 (0 + 1) = 1 := w64_id (by omega) (by omega)
 rw [e1]
 refine Ok.for (fun j s => j = 0 ∧ s = (L, 1)) ⟨rfl, rfl⟩ ?_ ?_
 ·rintro j s n hj ⟨rfl, rfl⟩ hn
  unfold partialInsertionSortOrdered_slices_intL1
  simp only
  refine Ok.while (fun q => ∃ i : Nat, q = ((i + 1 : Nat) : Int) ∧ i + 1 ≤ L.length) (fun q => L.length - q.toNat) ⟨0, rfl, h1⟩ (by rw [FUEL_eq]; omega) ?_
  rintro q nn ⟨i, rfl, hi⟩ hnn
  unfold partialInsertionSortOrdered_slices_intL12 partialInsertionSortOrdered_slices_intJ14
  simp only
  have hw : w64 (((i + 1 : Nat) : Int) - 1) = (i : Int) := by
   rw [w64_id (by omega) (by omega)]
   omega
  have ei : Int.toNat (i : Int) = i := by omega
  have ei1 : Int.toNat ((i + 1 : Nat) : Int) = i + 1 := by omega
  refine Ok.ite (fun c => ?_) fun c => ?_
  ·have c := of_decide_eq_true c
   rw [hw, ei, ei1, less_eq, asc_not h (show i < i + 1 by omega) (by omega)]
   refine Ok.guard (by omega) (Ok.guard (by omega) (Ok.guard (by omega) (Ok.guard (by omega) ?_)))
   refine Ok.step rfl (hnn _ ⟨i + 1, ?_, by omega⟩ ?_)
   ·rw [w64_id (by omega) (by omega)]
    omega
   ·rw [w64_id (by omega) (by omega)]
    omega
  ·have c := of_decide_eq_false c
   have : ((i + 1 : Nat) : Int) = (L.length : Int) := by omega
   simp only [Bool.false_eq_true, if_false]
   rw [if_pos (by rw [this]; simp)]
   exact Ok.ret rfl
 ·rintro s ⟨h0, _⟩
  simp at h0
theorem lens_pos : (List.range 1001).all (fun n => (Len_bits (IntKind.u64.wrap (n : Int))).any (fun k => n == 0 || decide (1 ≤ k))) = true := by decide +kernel
theorem len_bits {n : Nat} (h0 : 0 < n) (hn : n ≤ 1000) : Ok (Len_bits (IntKind.u64.wrap (n : Int))) (fun k => 1 ≤ k) := by
 have := List.all_eq_true.mp lens_pos n (by rw [List.mem_range]; omega)
 cases hb : Len_bits (IntKind.u64.wrap (n : Int)) with
 | none => rw [hb] at this; simp at this
 | some k =>
  rw [hb] at this
  simp at this
  exact ⟨k, rfl, by omega⟩
theorem len_bits_tot {n : Nat} (hn : n ≤ 1000) : Ok (Len_bits (IntKind.u64.wrap (n : Int))) (fun _ => True) := by
 have := List.all_eq_true.mp lens_pos n (by rw [List.mem_range]; omega)
 cases hb : Len_bits (IntKind.u64.wrap (n : Int)) with
 | none => rw [hb] at this; simp at this
 | some k => exact ⟨k, rfl, trivial⟩
theorem pdq_unfold (p0 : List Int) (p1 p2 p3 : Int) : pdqsortOrdered_slices_int p0 p1 p2 p3 = pdqsortOrdered_slices_intB (pdqsortOrdered_slices_intF 1099511627775) p0 p1 p2 p3 := by
 show pdqsortOrdered_slices_intF (1099511627775 + 1) p0 p1 p2 p3 = _
 rw [pdqsortOrdered_slices_intF]
theorem sort_asc {L : List Int} (h : L.Pairwise (· < ·)) (hl : L.length ≤ 1000) : Sort_slices_int L = some L := by
 apply Ok.eq
 unfold Sort_slices_int
 refine Ok.bind (P := fun k => 12 < L.length → 1 ≤ k) ?_ fun k hk => ?_
 ·by_cases h0 : 0 < L.length
  ·exact (len_bits h0 hl).mono fun _ h _ => h
  ·exact (len_bits_tot hl).mono fun _ _ h => by omega
 refine Ok.step (a := L) ?_ (Ok.guard rfl (Ok.ret rfl))
 apply Ok.eq
 rw [pdq_unfold]
 unfold pdqsortOrdered_slices_intB
 refine Ok.while (fun q => q = (L, 0, (L.length : Int), k, true, true)) (fun _ => 0) rfl (by rw [FUEL_eq]; omega) ?_
 rintro q n rfl _
 unfold pdqsortOrdered_slices_intL1
 simp only
 have e0 : w64 ((L.length : Int) - 0) = (L.length : Int) := by
  rw [w64_id (by omega) (by omega)]
  omega
 rw [e0]
 refine Ok.ite (fun _ => ?_) fun c => ?_
 ·exact Ok.step (insertion_asc h (by omega)) (Ok.guard rfl (Ok.ret rfl))
 ·have c := of_decide_eq_false c
  have := hk (by omega)
  refine Ok.ite (fun c => ?_) fun _ => ?_
  ·exfalso
   have : k = 0 := by simpa using c
   omega
  simp only [Bool.not_true, Bool.false_eq_true, if_false]
  unfold pdqsortOrdered_slices_intJ8
  simp only
  refine Ok.bind (pivot_asc h (by omega) (by omega)) fun r hr => ?_
  rw [hr]
  refine Ok.ite (fun c => by simp at c) fun _ => ?_
  unfold pdqsortOrdered_slices_intJ9
  simp only
  refine Ok.ite (fun _ => ?_) fun c => by simp at c
  exact Ok.step (partial_asc h (by omega) (by omega)) (Ok.guard rfl (Ok.ret rfl))
theorem compact_asc {L : List Int} (h : L.Pairwise (· < ·)) (hl : L.length ≤ 1000000) : Compact_slices_int L = some (L.length, L) := by
 apply Ok.eq
 unfold Compact_slices_int
 refine Ok.ite (fun _ => Ok.ret rfl) fun c => ?_
 refine Ok.guard (by omega) ?_
 refine Ok.for (fun _ _ => True) trivial ?_ fun _ _ => Ok.ret rfl
 intro j _ n hj _ hn
 unfold Compact_slices_intL1
 have hw : w64 (1 + (j : Int) - 1) = (j : Int) := by
  rw [w64_id (by omega) (by omega)]
  omega
 have ej : Int.toNat (j : Int) = j := by omega
 have ej1 : Int.toNat (1 + (j : Int)) = j + 1 := by omega
 rw [hw, ej, ej1]
 have := asc_at h (show j < j + 1 by omega) (by omega)
 refine Ok.guard (by omega) (Ok.guard (by omega) (Ok.guard (by omega) (Ok.guard (by omega) ?_)))
 refine Ok.ite (fun c => ?_) fun _ => hn () trivial
 have : L.getD (j + 1) 0 = L.getD j 0 := by simpa using c
 omega
theorem ids_asc {L : List Task} (h : L.Pairwise (fun a b => a.id < b.id)) (p : Task → Bool) : ((L.filter p).map (·.id)).Pairwise (· < ·) := by
 rw [List.pairwise_map]
 exact h.filter p
theorem Tasks_crew_t {h : Hierarchy} (hs : h.tasks.Pairwise (fun a b => a.id < b.id)) (hl : h.tasks.length ≤ 1000) (g : Int) : Tasks_crew h g = some (tasksK h g) := by
 unfold Tasks_crew Those_crewQTasksFa_crewQID_crew
 rw [if_pos (by omega)]
 have ha := ids_asc hs (fun x => x.group == g)
 have hlen : ((h.tasks.filter (fun x => x.group == g)).map (·.id)).length ≤ 1000 := by
  rw [List.length_map]
  have := List.length_filter_le (fun x : Task => x.group == g) h.tasks
  omega
 rw [range_collect (p := fun x : Task => x.group == g) (f := fun x : Task => x.id) (r := Those_crewQTasksFa_crewQID_crewD1) (fun k x s n hs => by
  unfold Those_crewQTasksFa_crewQID_crewL1 Those_crewQTasksFa_crewQID_crewJ3 TasksFa_crew ID_crew
  simp only [Option.bind_some]
  rw [if_pos hs]) (fun _ => rfl) (by simp; omega)]
 rw [List.nil_append]
 unfold Those_crewQTasksFa_crewQID_crewD1
 rw [sort_asc ha hlen, Option.bind_some, if_pos rfl, compact_asc ha (by omega), Option.bind_some, if_pos rfl, if_pos (Nat.le_refl _), List.take_length]
 rfl
theorem Tasks_member_t {h : Hierarchy} (w : WfH h) (g : Int) : Tasks_member h g = some (tasksK h g) := by
 have := w.len
 unfold Tasks_member
 rw [checked_member_t w, Option.bind_some, Tasks_crew_t w.sorted (by omega)]
 rfl
theorem Populated_member_t {h : Hierarchy} (w : WfH h) (k : Int) : Populated_member h k = some (decide (((countN h k : Nat) : Int) > 0)) := by
 unfold Populated_member
 rw [Count_member_t w]
 rfl
end Go.Dm

/- Plain theory, part 21: what changes leave as it is; sizes of made hierarchies. -/
namespace Go.Dm
def withN (h : Hierarchy) (x : Node) : Hierarchy := { tree := setT h.tree x, tasks := h.tasks, next := h.next }
structure Sized (n m : Int) (h : Hierarchy) : Prop where
 nodes : (h.tree.nodes.length : Int) ≤ n + 1
 tnext : h.tree.next ≤ n + 2
 tasks : (h.tasks.length : Int) ≤ m
 next : h.next ≤ m + 1
def ownN (x : Node) (u : Int) : Node := { id := x.id, parent := x.parent, name := x.name, control := x.control, kind := x.kind, owner := u }
structure HInv (n m : Int) (P R : Int → Hierarchy → Prop) : Prop where
 en : ∀ h g a r c, WfH h → P c h → Enable_ref8 h g a 0 = some r → r.2 = 0 → P c r.1
 co : ∀ h g r c, WfH h → P c h → Convert_ref8 h g = some r → r.2 = 0 → P c r.1
 ow : ∀ h x u c, WfH h → P c h → x ∈ h.tree.nodes → x.id ≠ 1 → 0 ≤ u → u < 3 → P c (withN h (ownN x u))
 skip : ∀ c h, WfH h → 0 ≤ c → P (c + 1) h → P c h
 sp : ∀ c h g u r, WfH h → 0 ≤ c → P (c + 1) h → Admits_ref8 h g = some 0 → 0 ≤ u → u < 3 → spawnK h g u = r → r.2.2 = 0 → R c r.1
 nosp : ∀ c h, WfH h → 0 ≤ c → P (c + 1) h → R c h
 nocl : ∀ c h, WfH h → 0 ≤ c → R c h → P c h
 cl : ∀ c h k r, WfH h → 0 ≤ c → R c h → cloneK h k = r → r.2.2 = 0 → P c r.1
 atc : ∀ c h k g r, WfH h → 0 ≤ c → P c h → AttachThread_ref8 h k g = some r → r.2 = 0 → P c r.1
 ex : ∀ c h k r, WfH h → 0 ≤ c → P c h → exitK h k = r → r.2 = 0 → P c r.1
end Go.Dm

/- Plain theory, part 22: the program's changes of hierarchies are the document's. -/
namespace Go.Dm
theorem fillL_length {α : Type} {L : List α} {a n : Nat} {x : α} (h : a + n ≤ L.length) : (fillL L a n x).length = L.length := by
 simp only [fillL, List.length_append, List.length_take, List.length_replicate, List.length_drop]
 omega
theorem fillL_take {α : Type} {L : List α} {a n : Nat} {x : α} (h : a ≤ L.length) : (fillL L a n x).take a = L.take a := by
 unfold fillL
 rw [List.take_append_of_le_length (by rw [List.length_take]; omega), List.take_take, Nat.min_self]
theorem overL_length {α : Type} {L M : List α} {a n : Nat} (h : a + n ≤ L.length) (hm : n ≤ M.length) : (overL L a n M).length = L.length := by
 simp only [overL, List.length_append, List.length_take, List.length_drop]
 omega
theorem delete_loop {α R : Type} {p : α → Bool} {L : List α} {d : α} (hl : L.length ≤ 1000000) {body : List α × Int × Int → (List α × Int × Int → Option R) → Option R} {Q : R → Prop} {i0 : Nat} (hi0 : i0 < L.length) (h0 : ∀ x ∈ L.take i0, p x = false) (hp : p (L.getD i0 d) = true)
  (hb : ∀ (M : List α) (i j : Nat) n, M.length = L.length → i < j → j < L.length → (∀ s, (s = if p (M.getD j d) then (M, (i : Int), ((j + 1 : Nat) : Int)) else (M.set i (M.getD j d), ((i + 1 : Nat) : Int), ((j + 1 : Nat) : Int))) → Ok (n s) Q) → Ok (body (M, (i : Int), (j : Int)) n) Q)
  (hr : ∀ (M : List α) (i : Nat) n, M.length = L.length → i ≤ L.length → M.take i = L.filter (fun x => !p x) → Ok (body (M, (i : Int), (L.length : Int)) n) Q) : Ok (whileO body FUEL (L, (i0 : Int), ((i0 + 1 : Nat) : Int))) Q := by
 refine Ok.while (fun s => ∃ i j : Nat, s.2.1 = (i : Int) ∧ s.2.2 = (j : Int) ∧ i < j ∧ j ≤ L.length ∧ s.1.length = L.length ∧ s.1.take i = (L.take j).filter (fun x => !p x) ∧ s.1.drop j = L.drop j) (fun s => L.length - s.2.2.toNat) ?_ ?_ ?_
 ·refine ⟨i0, i0 + 1, rfl, rfl, by omega, by omega, rfl, ?_, rfl⟩
  have e : L.take (i0 + 1) = L.take i0 ++ [L.getD i0 d] := by
   rw [List.take_add_one, getD_lt hi0]
   simp [hi0]
  rw [e, List.filter_append, List.filter_eq_self.mpr fun x hx => by simp [h0 x hx]]
  simp only [hp, Bool.not_true, List.filter_cons, Bool.false_eq_true, if_false, List.filter_nil, List.append_nil]
 ·rw [FUEL_eq]
  omega
 ·rintro ⟨M, x, y⟩ n ⟨i, j, e1, e2, hij, hj, hM, ht, hd⟩ hn
  simp only at e1 e2 hM ht hd
  subst e1 e2
  by_cases hjl : j < L.length
  ·refine hb M i j n hM hij hjl fun s hs => ?_
   have hMj : M.getD j d = L.getD j d := by
    have := congrArg List.head? hd
    rw [List.head?_drop, List.head?_drop] at this
    rw [List.getD_eq_getElem?_getD, List.getD_eq_getElem?_getD, this]
   have e : L.take (j + 1) = L.take j ++ [L.getD j d] := by
    rw [List.take_add_one, getD_lt hjl]
    simp [hjl]
   have hd' : M.drop (j + 1) = L.drop (j + 1) := by
    have := congrArg (List.drop 1) hd
    rw [List.drop_drop, List.drop_drop] at this
    exact this
   cases hpj : p (M.getD j d) with
   | true =>
    rw [hpj, if_pos rfl] at hs
    subst hs
    refine hn _ ⟨i, j + 1, rfl, rfl, by omega, by omega, hM, ?_, hd'⟩ (by simp only; omega)
    simp only
    rw [ht, e, List.filter_append, ← hMj, List.filter_cons, hpj]
    simp
   | false =>
    rw [hpj, if_neg (by simp)] at hs
    subst hs
    refine hn _ ⟨i + 1, j + 1, rfl, rfl, by omega, by omega, by simp [hM], ?_, ?_⟩ (by simp only; omega)
    ·simp only
     rw [e, List.filter_append, ← hMj, ← ht]
     have hi : i < M.length := by omega
     rw [List.take_add_one, List.filter_cons, hpj, List.take_set_of_le (Nat.le_refl _), List.getElem?_set_self hi]
     rfl
    ·simp only
     rw [List.drop_set_of_lt (by omega), hd']
  ·obtain rfl : j = L.length := by omega
   refine hr M i n hM (by omega) ?_
   rw [ht, List.take_length]
theorem DeleteFunc_Task_eq (L : List Task) (k : Int) (hl : L.length ≤ 1000000) :
  Ok (DeleteFunc_slices_TaskQExitFa_member L k) (fun r => r.2.1.length = L.length ∧ r.1 ≤ L.length ∧ r.2.1.take r.1 = L.filter (fun x => x.id != k && x.process != k)) := by
 have hf : ∀ x : Task, (!((x.id == k) || (x.process == k))) = (x.id != k && x.process != k) := fun x => by
  simp [bne]
 unfold DeleteFunc_slices_TaskQExitFa_member IndexFunc_slices_TaskQExitFa_member
 rw [if_pos (by omega), range_index (p := fun x : Task => (x.id == k) || (x.process == k)) (fun k x n => rfl) rfl]
 refine Ok.step rfl ?_
 rcases idx_cases (fun x : Task => (x.id == k) || (x.process == k)) L default with ⟨i, h1, h2, h3⟩ | ⟨h1, h2⟩
 ·rw [h2, Option.elim_some]
  refine Ok.ite (fun c => by have := beq_iff_eq.mp c; omega) fun _ => ?_
  have e1 : w64 ((i : Int) + 1) = ((i + 1 : Nat) : Int) := by
   rw [w64_id (by omega) (by omega)]
   omega
  rw [e1]
  have hh := List.findIdx?_eq_some_iff_getElem.mp h2
  obtain ⟨g1, g2, g3⟩ := hh
  refine delete_loop (p := fun x : Task => (x.id == k) || (x.process == k)) (d := default) hl h1 ?_ ?_ ?_ ?_
  ·intro x hx
   obtain ⟨j, hj, rfl⟩ := List.getElem_of_mem hx
   rw [List.length_take] at hj
   rw [List.getElem_take]
   have := g3 j (by omega)
   simpa using this
  ·rw [getD_lt h1]
   exact g2
  ·intro M i j n hM hij hj hn
   unfold DeleteFunc_slices_TaskQExitFa_memberL1 DeleteFunc_slices_TaskQExitFa_memberJ2
   simp only
   have ei : Int.toNat (i : Int) = i := by omega
   have ej : Int.toNat (j : Int) = j := by omega
   rw [ei, ej]
   refine Ok.ite (fun _ => ?_) fun c => by
    have := of_decide_eq_false c
    omega
   refine Ok.guard (by omega) (Ok.guard (by omega) ?_)
   unfold ExitFa_member
   refine Ok.step rfl ?_
   have ej1 : w64 ((j : Int) + 1) = ((j + 1 : Nat) : Int) := by
    rw [w64_id (by omega) (by omega)]
    omega
   have ei1 : w64 ((i : Int) + 1) = ((i + 1 : Nat) : Int) := by
    rw [w64_id (by omega) (by omega)]
    omega
   rw [ej1, ei1]
   refine Ok.ite (fun c => ?_) fun c => ?_
   ·refine Ok.guard (by omega) (Ok.guard (by omega) (hn _ ?_))
    rw [if_neg]
    simpa using c
   ·refine hn _ ?_
    rw [if_pos]
    rw [Bool.not_eq_false'] at c
    exact c
  ·intro M i n hM hi ht
   unfold DeleteFunc_slices_TaskQExitFa_memberL1
   simp only
   have ei : Int.toNat (i : Int) = i := by omega
   rw [ei, subN_eq]
   refine Ok.ite (fun c => by have := of_decide_eq_true c; omega) fun _ => ?_
   have hfl : (fillL M i (M.length - i) ({ id := 0, process := 0, group := 0, user := 0 } : Task)).length = M.length := fillL_length (by omega)
   refine Ok.guard (by omega) (Ok.guard (by omega) (Ok.guard (by rw [hfl]; omega) (Ok.ret ⟨by simp only; rw [hfl, hM], hi, ?_⟩)))
   simp only
   rw [fillL_take (by omega), ht]
   exact List.filter_congr fun x _ => hf x
 ·rw [h1, Option.elim_none]
  refine Ok.ite (fun _ => Ok.ret ⟨rfl, Nat.le_refl _, ?_⟩) fun c => by simp at c
  simp only [List.take_length]
  symm
  rw [List.filter_eq_self]
  intro x hx
  rw [List.find?_eq_none] at h2
  have := h2 x hx
  rw [← hf]
  simpa using this
theorem add_member_eq {h : Hierarchy} (l1 : h.tasks.length ≤ 1000000) (l2 : h.tree.nodes.length ≤ 1000000) (n1 : 1 ≤ h.next) (x : Task) : add_member h x = some (addK h x) := by
 apply Ok.eq
 unfold add_member addK
 refine Ok.ite (fun c => ?_) fun c => ?_
 ·rw [if_pos]
  ·exact Ok.ret rfl
  ·simp only [Bool.or_eq_true, decide_eq_true_eq] at c ⊢
   omega
 ·simp only [Bool.or_eq_false_iff, decide_eq_false_iff_not] at c
  rw [if_neg (by simp only [Bool.or_eq_true, decide_eq_true_eq]; omega)]
  refine Ok.step (Copy_crew_eq h l2 l1) ?_
  unfold add_memberJ1
  simp only
  rw [w64_id (by omega) (by omega)]
  refine Ok.ite (fun c => Ok.guard (by omega) (Ok.ret ?_)) fun c => Ok.guard (by omega) (Ok.ret ?_)
  ·rw [if_pos c]
  ·rw [if_neg (by rw [c]; simp)]
theorem Spawn_member_t {h : Hierarchy} (w : WfH h) (g u : Int) : Spawn_member h g u = some (spawnK h g u) := by
 have l1 := w.len
 have l2 := w.tree.len2
 apply Ok.eq
 unfold Spawn_member spawnK
 refine Ok.step (Check_member_t w) ?_
 simp only [Bool.not_true, Bool.false_eq_true, if_false]
 unfold Spawn_memberJ1
 by_cases h1 : u < 0
 ·simp only [h1, decide_true, Bool.true_or, if_true]
  exact Ok.ret rfl
 by_cases h2 : u > 1048576
 ·have h2' : 1048576 < u := h2
  simp only [h1, h2, h2', decide_true, decide_false, Bool.or_true, if_true, Bool.false_eq_true, if_false]
  exact Ok.ret rfl
 have h2' : ¬ 1048576 < u := h2
 simp only [h1, h2, h2', decide_false, Bool.or_false, Bool.false_eq_true, if_false]
 refine Ok.bind (At_forest_has h.tree g (by omega)) fun i hi => ?_
 rw [hi.1]
 cases hasN h.tree g with
 | false => exact Ok.ret rfl
 | true =>
  simp only [Bool.not_true, Bool.false_eq_true, if_false]
  exact Ok.step (add_member_eq (by omega) (by omega) w.n1 _) (Ok.ret rfl)
theorem Clone_member_t {h : Hierarchy} (w : WfH h) (k : Int) : Clone_member h k = some (cloneK h k) := by
 have l1 := w.len
 have l2 := w.tree.len2
 apply Ok.eq
 unfold Clone_member cloneK
 refine Ok.step (Check_member_t w) ?_
 simp only [Bool.not_true, Bool.false_eq_true, if_false]
 refine Ok.step (Find_crew_eq h k (by omega)) ?_
 cases getK h.tasks k with
 | none => exact Ok.ret rfl
 | some x =>
  simp only [Option.elim_some, Bool.not_true, Bool.false_eq_true, if_false]
  exact Ok.step (add_member_eq (by omega) (by omega) w.n1 _) (Ok.ret rfl)
theorem Exit_member_t {h : Hierarchy} (w : WfH h) (k : Int) : Exit_member h k = some (exitK h k) := by
 have l1 := w.len
 have l2 := w.tree.len2
 apply Ok.eq
 unfold Exit_member exitK getK
 refine Ok.step (Check_member_t w) ?_
 simp only [Bool.not_true, Bool.false_eq_true, if_false]
 refine Ok.step (At_crew_eq h k (by omega)) ?_
 rcases idx_cases (fun x : Task => x.id == k) h.tasks default with ⟨i, h1, h2, h3⟩ | ⟨h1, h2⟩
 ·rw [h2, h3, Option.elim_some, Option.elim_some]
  refine Ok.ite (fun c => by have := of_decide_eq_true c; omega) fun _ => ?_
  refine Ok.step (Copy_crew_eq h (by omega) (by omega)) ?_
  refine Ok.bind (DeleteFunc_Task_eq h.tasks k (by omega)) fun r ⟨r1, r2, r3⟩ => ?_
  refine Ok.guard r1.symm (Ok.guard (by omega) (Ok.ret ?_))
  rw [r3]
 ·rw [h1, h2]
  exact Ok.ret rfl
theorem Delete_Node_eq (L : List Node) (i : Nat) (hi : i < L.length) (hl : L.length ≤ 1000000) :
  Ok (Delete_slices_Node L (i : Int) ((i + 1 : Nat) : Int)) (fun r => r.2.length = L.length ∧ r.1 ≤ L.length ∧ r.2.take r.1 = L.take i ++ L.drop (i + 1)) := by
 unfold Delete_slices_Node
 have ei : Int.toNat (i : Int) = i := by omega
 have ei1 : Int.toNat ((i + 1 : Nat) : Int) = i + 1 := by omega
 rw [ei, ei1]
 simp only [subN_eq, Nat.zero_add]
 have hd : ((L.drop (i + 1)).take (L.length - (i + 1))) = L.drop (i + 1) := by
  rw [List.take_of_length_le (by rw [List.length_drop]; omega)]
 rw [hd]
 have ho : (overL L i (L.length - (i + 1)) (L.drop (i + 1))).length = L.length := overL_length (by omega) (by rw [List.length_drop]; omega)
 refine Ok.guard (by omega) ?_
 refine Ok.ite (fun c => ?_) fun _ => ?_
 ·have : ((i : Nat) : Int) = ((i + 1 : Nat) : Int) := by simpa using c
  omega
 refine Ok.guard (by omega) (Ok.guard (by omega) (Ok.guard (by omega) (Ok.guard (by rw [ho]; omega) (Ok.guard (by rw [ho]; omega) (Ok.ret ⟨?_, ?_, ?_⟩)))))
 ·simp only
  rw [fillL_length (by rw [ho]; omega), ho]
 ·simp only
  omega
 ·simp only
  rw [fillL_take (by rw [ho]; omega)]
  unfold overL
  rw [← List.append_assoc, List.take_append_of_le_length (by
   simp only [List.length_append, List.length_take, List.length_drop]
   omega), List.take_of_length_le (by
   simp only [List.length_append, List.length_take, List.length_drop]
   omega), hd]
theorem sorted_erase {L : List Node} (hs : L.Pairwise (fun a b => a.id < b.id)) {i : Nat} (hi : i < L.length) {k : Int} (e : L[i].id = k) : L.take i ++ L.drop (i + 1) = L.filter (fun x => x.id != k) := by
 have h1 : L = L.take i ++ L[i] :: L.drop (i + 1) := by
  rw [List.getElem_cons_drop, List.take_append_drop]
 have h2 := hs
 rw [h1, List.pairwise_append, List.pairwise_cons] at h2
 obtain ⟨_, ⟨ha, _⟩, hb⟩ := h2
 conv => rhs; rw [h1]
 rw [List.filter_append, List.filter_cons, if_neg (by simp [e])]
 congr 1
 ·symm
  rw [List.filter_eq_self]
  intro x hx
  have := hb x hx L[i] (List.mem_cons_self ..)
  simp
  omega
 ·symm
  rw [List.filter_eq_self]
  intro x hx
  have := ha x hx
  simp
  omega
theorem Remove_tree_t {t : Tree} (w : WfT t) (id : Int) : Remove_tree t id = some (removeT t id) := by
 have l2 := w.len2
 apply Ok.eq
 unfold Remove_tree removeT hasN getN
 refine Ok.step (At_forest_eq t id (by omega)) ?_
 refine Ok.step (Check_tree_t w) ?_
 simp only [Bool.not_true, Bool.false_eq_true, if_false]
 rcases idx_cases (fun x : Node => x.id == id) t.nodes default with ⟨i, h1, h2, h3⟩ | ⟨h1, h2⟩
 ·rw [h2, h3, Option.elim_some]
  have hid : t.nodes[i].id = id := by
   have := List.find?_some h3
   rw [getD_lt h1] at this
   simpa using this
  refine Ok.ite (fun c => by have := of_decide_eq_true c; omega) fun _ => ?_
  simp only [Option.isSome_some, Bool.not_true, Bool.false_eq_true, if_false]
  refine Ok.ite (fun c => ?_) fun c => ?_
  ·rw [if_pos c]
   exact Ok.ret rfl
  rw [if_neg (by rw [c]; simp)]
  refine Ok.step (Children_forest_eq t id (by omega)) ?_
  refine Ok.ite (fun c => ?_) fun c => ?_
  ·have c := of_decide_eq_true c
   rw [if_pos (by simp; omega)]
   exact Ok.ret rfl
  have c := of_decide_eq_false c
  rw [if_neg (by rw [decide_eq_true_eq]; omega)]
  refine Ok.step (a := t) (by unfold copied_tree Clone_slices_Node; rw [if_pos (by omega)]; rfl) ?_
  have e1 : w64 ((i : Int) + 1) = ((i + 1 : Nat) : Int) := by
   rw [w64_id (by omega) (by omega)]
   omega
  rw [e1]
  refine Ok.bind (Delete_Node_eq t.nodes i h1 (by omega)) fun r ⟨r1, r2, r3⟩ => ?_
  refine Ok.guard r1.symm (Ok.guard (by omega) (Ok.ret ?_))
  rw [r3, sorted_erase w.sorted h1 hid]
 ·rw [h1, h2]
  exact Ok.ret rfl
def removeK (h : Hierarchy) (g : Int) : Hierarchy × Int :=
 if (removeT h.tree g).2 != 0 then (zH, (removeT h.tree g).2) else if decide (0 < (tasksK h g).length) then (zH, 6)
 else ({ tree := (removeT h.tree g).1, tasks := h.tasks, next := h.next }, 0)
theorem Remove_member_t {h : Hierarchy} (w : WfH h) (g : Int) : Remove_member h g = some (removeK h g) := by
 have l1 := w.len
 have l2 := w.tree.len2
 apply Ok.eq
 unfold Remove_member removeK
 refine Ok.step (Check_member_t w) ?_
 simp only [Bool.not_true, Bool.false_eq_true, if_false]
 refine Ok.step (Remove_tree_t w.tree g) ?_
 refine Ok.ite (fun c => ?_) fun c => ?_
 ·rw [if_pos c]
  exact Ok.ret rfl
 rw [if_neg (by rw [c]; simp)]
 refine Ok.step (Tasks_crew_t w.sorted (by omega) g) ?_
 refine Ok.ite (fun c => ?_) fun c => ?_
 ·have c := of_decide_eq_true c
  rw [if_pos (by simp; omega)]
  exact Ok.ret rfl
 have c := of_decide_eq_false c
 rw [if_neg (by rw [decide_eq_true_eq]; omega)]
 exact Ok.step (Copy_crew_eq h (by omega) (by omega)) (Ok.ret rfl)
theorem removeK_wf {h : Hierarchy} (w : WfH h) {g : Int} {r : Hierarchy × Int} (e : removeK h g = r) (hr : r.2 = 0) : WfH r.1 := by
 unfold removeK at e
 split at e
 ·rename_i c
  subst e
  simp only at hr
  simp [hr] at c
 ·rename_i c0
  split at e
  ·subst e; simp at hr
  ·rename_i c
   have c0 : (removeT h.tree g).2 = 0 := by simpa using c0
   have wt := removeT_wf w.tree rfl c0
   subst e
   refine ⟨wt, w.len, w.n1, w.n2, w.sorted, w.lt, fun y hy => ?_⟩
   have u := w.val y hy
   refine ⟨u.pos, ?_, u.u1, u.u2, u.ldr⟩
   obtain ⟨z, hz, hzi⟩ := hasN_iff.mp u.grp
   have hne : y.group ≠ g := fun e => by
    have : y.id ∈ tasksK h g := List.mem_map.mpr ⟨y, List.mem_filter.mpr ⟨hy, by simpa using e⟩, rfl⟩
    have := List.length_pos_of_mem this
    rw [decide_eq_true_eq] at c
    omega
   refine hasN_iff.mpr ⟨z, ?_, hzi⟩
   unfold removeT at c0 ⊢
   split at c0
   ·simp at c0
   ·split at c0
    ·simp at c0
    ·split at c0
     ·simp at c0
     ·rename_i q1 q2 q3
      rw [if_neg q1, if_neg q2, if_neg q3]
      simp only [List.mem_filter]
      refine ⟨hz, ?_⟩
      simp
      omega
theorem sane_law6_t : sane_law6 = some true := by kernel_rfl
end Go.Dm

/- The law MemberSums, on the model. -/
namespace Go.Dm
theorem memberSums_ok (l : List Int) : Ok (MemberSums_law6 l) (· = true) := by
 have sane : ∀ {f : Bool → Option Bool}, f true = some true → Ok (Option.bind sane_law6 f) (· = true) := fun h => Ok.step sane_law6_t (Ok.of_eq h rfl)
 unfold MemberSums_law6 Light_made
 refine Ok.step rfl ?_
 refine Ok.ite (fun _ => sane rfl) fun c => ?_
 have hl : l.length ≤ 600 := by
  have : ((l.length : Nat) : Int) ≤ 600 := by simpa using c
  omega
 refine Ok.step (a := { l := l, atF := 0 }) rfl ?_
 refine Ok.bind (Hierarchy_ok (dice_roll hl) 7 10 (by omega) (by omega) (by omega) (by omega)) fun r ⟨w, hd⟩ => ?_
 refine Ok.for (fun _ s => WfH s.1 ∧ DiceOk s.2) ⟨w, hd⟩ ?_ ?_
 ·rintro j ⟨h, d⟩ n hj ⟨w, hd⟩ hn
  simp only at w hd
  have h1 := w.len
  have h2 := w.tree.len2
  have hJ : ∀ y : Hierarchy × Dice × Int, DiceOk y.2.1 → (y.2.2 = 0 → WfH y.1) → Ok (MemberSums_law6J30 (h, d) n y) (· = true) := by
   rintro ⟨y, e, k⟩ hd hy
   simp only at hd hy
   unfold MemberSums_law6J30 MemberSums_law6J29
   simp only
   refine Ok.ite (fun _ => hn _ ⟨w, hd⟩) fun c => ?_
   have wy := hy (by simpa using c)
   refine Ok.step (Check_ref6_t wy) ?_
   exact hn _ ⟨wy, hd⟩
  unfold MemberSums_law6L1
  simp only
  refine Ok.bind (Next_ok hd 5 (by omega)) fun a ⟨ha, _⟩ => ?_
  refine Ok.ite (fun _ => ?_) fun _ => ?_
  ·refine Ok.bind (Group_ok ha h.tree (by omega)) fun b hb => ?_
   exact Ok.step (Spawn_member_t w _ _) (hJ _ hb (spawnK_wf w rfl))
  refine Ok.ite (fun _ => ?_) fun _ => ?_
  ·refine Ok.bind (Task_ok ha h (by omega)) fun b hb => ?_
   exact Ok.step (Clone_member_t w _) (hJ _ hb (cloneK_wf w rfl))
  refine Ok.ite (fun _ => ?_) fun _ => ?_
  ·refine Ok.bind (Task_ok ha h (by omega)) fun b hb => ?_
   exact Ok.step (Exit_member_t w _) (hJ _ hb (exitK_wf w rfl))
  refine Ok.ite (fun _ => ?_) fun _ => ?_
  ·refine Ok.bind (Task_ok ha h (by omega)) fun b hb => ?_
   refine Ok.bind (Group_ok hb h.tree (by omega)) fun c hc => ?_
   exact Ok.step (Place_member_t w _ _) (hJ _ hc (placeK_wf w rfl))
  refine Ok.ite (fun _ => ?_) fun _ => ?_
  ·refine Ok.bind (Group_ok ha h.tree (by omega)) fun b hb => ?_
   exact Ok.step (Remove_member_t w _) (hJ _ hb (removeK_wf w rfl))
  ·exact hJ _ ha fun _ => w
 ·rintro ⟨h, d⟩ ⟨w, hd⟩
  simp only at w hd
  have h1 := w.len
  have h2 := w.tree.len2
  unfold MemberSums_law6D1
  simp only
  refine Ok.guard (by omega) ?_
  refine Ok.range (fun _ _ => True) trivial ?_ ?_
  ·intro pre x post _ n he _ hn
   have hx : x ∈ h.tree.nodes := by rw [he]; simp
   have hg : ∃ n ∈ h.tree.nodes, n.id = x.id := ⟨x, hx, rfl⟩
   unfold MemberSums_law6L10
   simp only
   refine Ok.step (Tasks_member_t w x.id) ?_
   refine Ok.step (Children_ref5_t w.tree x.id) ?_
   rw [if_pos (has_of hx)]
   have hk := kidsN_length h.tree x.id
   refine Ok.guard (by omega) ?_
   refine Ok.range (fun pre v => v = (((tasksK h x.id).length + (pre.map (fun c => countN h c)).sum : Nat) : Int)) (by simp) ?_ ?_
   ·intro pre c post v nx he hv hnx
    unfold MemberSums_law6L13
    simp only
    refine Ok.step (Count_member_t w c) (hnx _ ?_)
    have hb := sum_le_of w hg (pre := pre ++ [c]) (post := post) (by rw [he]; simp)
    rw [List.map_append, List.sum_append] at hb ⊢
    simp only [List.map_cons, List.map_nil, List.sum_cons, List.sum_nil] at hb ⊢
    rw [hv, w64_id (by omega) (by omega)]
    omega
   ·intro v hv
    rw [← count_sum w hg] at hv
    unfold MemberSums_law6D13 MemberSums_law6J41
    simp only
    refine Ok.step (Count_member_t w x.id) ?_
    refine Ok.ite (fun c => by simp [hv] at c) fun _ => ?_
    refine Ok.step (Populated_member_t w x.id) ?_
    refine Ok.ite (fun c => by simp [hv] at c) fun _ => hn () trivial
  ·intro _ _
   unfold MemberSums_law6D10 MemberSums_law6J42
   simp only
   refine Ok.step (Count_member_t w 1) ?_
   rw [count_root w]
   refine Ok.ite (fun _ => sane rfl) fun c => by simp at c
theorem memberSums_true (l : List Int) (_ : ∀ n ∈ l, -9223372036854775808 ≤ n ∧ n ≤ 9223372036854775807) : MemberSums_law6 l = some true := (memberSums_ok l).eq
end Go.Dm

/- Models of Go types and functions, printed by a program. -/
namespace Go.Dm
set_option linter.unusedVariables false

end Go.Dm


/- The data machine, part 24: states by their changes; shorter words for the printed proofs. -/
namespace Go.Dm
def memN : List Nat → Nat → Bool
 | [], _ => false
 | a :: r, k => bif Nat.beq a k then true else memN r k
def delK {α : Type} (ds : List Nat) : List (Nat × α) → List (Nat × α)
 | [] => []
 | (k, x) :: r => bif memN ds k then delK ds r else (k, x) :: delK ds r
def insK {α : Type} (k : Nat) (x : α) : List (Nat × α) → List (Nat × α)
 | [] => [(k, x)]
 | (t, y) :: r => bif Nat.beq k t then (k, x) :: r else bif Nat.ble k t then (k, x) :: (t, y) :: r else (t, y) :: insK k x r
def insA {α : Type} : List (Nat × α) → List (Nat × α) → List (Nat × α)
 | [], l => l
 | (k, x) :: r, l => insK k x (insA r l)
def up {α : Type} (ds : List Nat) (us l : List (Nat × α)) : List (Nat × α) := insA us (delK ds l)
theorem assoc_insK {α : Type} (k : Nat) (x : α) (l : List (Nat × α)) (j : Nat) : assoc (insK k x l) j = assoc ((k, x) :: l) j := by
 induction l with
 | nil => rfl
 | cons p r ih =>
  obtain ⟨t, y⟩ := p
  rw [insK]
  cases hb : Nat.beq k t with
  | true =>
   have := Nat.eq_of_beq_eq_true hb
   subst this
   simp only [cond_true, assoc]
   cases Nat.beq j k <;> rfl
  | false =>
   simp only [cond_false]
   cases Nat.ble k t with
   | true => rfl
   | false =>
    simp only [cond_false, assoc] at ih ⊢
    rw [ih]
    cases h1 : Nat.beq j t with
    | true =>
     have := Nat.eq_of_beq_eq_true h1
     subst this
     cases h2 : Nat.beq j k with
     | true =>
      have := Nat.eq_of_beq_eq_true h2
      subst this
      rw [h1] at hb
      cases hb
     | false => rfl
    | false => rfl
inductive AdP where
 | s (t : Nat)
 | a (t j : Nat)
 | o (q j : Nat)
def adNil (k : Nat) : MV → Option MV
 | .p (.sl .nil _ n _) => bif Nat.beq n 0 then some (.own k 0 0 0) else none
 | _ => none
def adCell (k : Nat) : Nat → List MV → Option (List MV)
 | _, [] => none
 | 0, x :: r => match adNil k x with
  | some y => some (y :: r)
  | none => none
 | j + 1, x :: r => match adCell k j r with
  | some s => some (x :: s)
  | none => none
def adMV (k : Nat) : Option Nat → MV → Option MV
 | none, x => adNil k x
 | some j, .agg cs => (adCell k j cs).map .agg
 | _, _ => none
def adObj (k j : Nat) : Obj → Option Obj
 | ⟨g, .box cs⟩ => (adCell k j cs).map fun ds => ⟨g, .box ds⟩
 | _ => none
def adSlot (k t : Nat) (j : Option Nat) : List (Nat × MV) → Option (List (Nat × MV))
 | [] => none
 | (q, x) :: r => bif Nat.beq q t then (adMV k j x).map fun y => (q, y) :: r else (adSlot k t j r).map fun s => (q, x) :: s
def adBox (k q j : Nat) : List (Nat × Obj) → Option (List (Nat × Obj))
 | [] => none
 | (i, o) :: r => bif Nat.beq i q then (adObj k j o).map fun p => (i, p) :: r else (adBox k q j r).map fun s => (i, o) :: s
def adOne (k : Nat) (sl : List (Nat × MV)) (ob : List (Nat × Obj)) : AdP → Option (List (Nat × MV) × List (Nat × Obj))
 | .s t => (adSlot k t none sl).map fun s => (s, ob)
 | .a t j => (adSlot k t (some j) sl).map fun s => (s, ob)
 | .o q j => (adBox k q j ob).map fun b => (sl, b)
def adAll : List (AdP × Nat × Nat × (Nat → List PV)) → List (Nat × MV) → List (Nat × Obj) → Option (List (Nat × MV) × List (Nat × Obj))
 | [], sl, ob => some (sl, ob)
 | (p, k, W, f) :: r, sl, ob => bif Nat.ble 1000 k && (assoc ob k).isNone then (adOne k sl ob p).bind fun q => adAll r q.1 (insK k ⟨0, .row W 0 f⟩ q.2) else none
theorem adNil_ok {k : Nat} {x y : MV} (h : adNil k x = some y) : Ad1 k x y := by
 unfold adNil at h
 split at h
 ·rename_i W n f
  cases hb : Nat.beq n 0 with
  | true =>
   rw [hb] at h
   have := Nat.eq_of_beq_eq_true hb
   subst this
   simp only [cond_true, Option.some.injEq] at h
   subst h
   exact .nil _ _
  | false => rw [hb] at h; simp at h
 ·simp at h
theorem adCell_ok {k : Nat} : ∀ {j : Nat} {l m : List MV}, adCell k j l = some m → AdL k l m
 | _, [], _, h => by simp [adCell] at h
 | 0, x :: r, m, h => by
  rw [adCell] at h
  split at h
  ·rename_i y hy
   simp only [Option.some.injEq] at h
   subst h
   exact .cons (adNil_ok hy) (.rfl _)
  ·simp at h
 | j + 1, x :: r, m, h => by
  rw [adCell] at h
  split at h
  ·rename_i s hs
   simp only [Option.some.injEq] at h
   subst h
   exact .cons (.rfl _) (adCell_ok hs)
  ·simp at h
theorem adMV_ok {k : Nat} {j : Option Nat} {x y : MV} (h : adMV k j x = some y) : Ad k x y := by
 unfold adMV at h
 split at h
 ·exact .one (adNil_ok h)
 ·obtain ⟨ds, hd, rfl⟩ := Option.map_eq_some_iff.mp h
  exact .agg (adCell_ok hd)
 ·simp at h
theorem adSlot_ok {k t : Nat} {j : Option Nat} : ∀ {l m : List (Nat × MV)}, adSlot k t j l = some m → AdS k l m
 | [], _, h => by simp [adSlot] at h
 | (q, x) :: r, m, h => by
  rw [adSlot] at h
  cases hb : Nat.beq q t with
  | true =>
   rw [hb, cond_true] at h
   obtain ⟨y, hy, rfl⟩ := Option.map_eq_some_iff.mp h
   exact .cons (adMV_ok hy) (.rfl _)
  | false =>
   rw [hb, cond_false] at h
   obtain ⟨s, hs, rfl⟩ := Option.map_eq_some_iff.mp h
   exact .cons (.one (.rfl _)) (adSlot_ok hs)
theorem adBox_ok {k q j : Nat} : ∀ {l m : List (Nat × Obj)}, adBox k q j l = some m → AdO k l m
 | [], _, h => by simp [adBox] at h
 | (i, o) :: r, m, h => by
  rw [adBox] at h
  cases hb : Nat.beq i q with
  | true =>
   rw [hb, cond_true] at h
   obtain ⟨p, hp, rfl⟩ := Option.map_eq_some_iff.mp h
   unfold adObj at hp
   split at hp
   ·obtain ⟨ds, hd, rfl⟩ := Option.map_eq_some_iff.mp hp
    exact .box (adCell_ok hd) (.rfl _)
   ·simp at hp
  | false =>
   rw [hb, cond_false] at h
   obtain ⟨s, hs, rfl⟩ := Option.map_eq_some_iff.mp h
   exact .keep (adBox_ok hs)
theorem mkSt_ins (sl : List (Nat × MV)) (k : Nat) (o : Obj) (ob : List (Nat × Obj)) : mkSt sl (insK k o ob) = mkSt sl ((k, o) :: ob) := by
 unfold mkSt
 congr 1
 funext j
 exact assoc_insK k o ob j
theorem Conv.adsAll {cx : Cx} : ∀ (acts : List (AdP × Nat × Nat × (Nat → List PV))) {sl sl' : List (Nat × MV)} {ob ob' : List (Nat × Obj)}, adAll acts sl ob = some (sl', ob') → Conv cx (mkSt sl ob) (mkSt sl' ob')
 | [], sl, sl', ob, ob', h => by
  simp only [adAll, Option.some.injEq, Prod.mk.injEq] at h
  obtain ⟨rfl, rfl⟩ := h
  exact .refl
 | (p, k, W, f) :: r, sl, sl', ob, ob', h => by
  rw [adAll] at h
  cases hk : (Nat.ble 1000 k && (assoc ob k).isNone) with
  | false => rw [hk] at h; simp at h
  | true =>
   rw [hk, cond_true] at h
   obtain ⟨q, hq, h⟩ := Option.bind_eq_some_iff.mp h
   rw [Bool.and_eq_true, Option.isNone_iff_eq_none] at hk
   have a : Conv cx (mkSt sl ob) (mkSt q.1 (insK k ⟨0, .row W 0 f⟩ q.2)) := by
    rw [mkSt_ins]
    unfold adOne at hq
    split at hq
    ·obtain ⟨s, hs, rfl⟩ := Option.map_eq_some_iff.mp hq
     exact Conv.adopt k W f hk.1 hk.2 (adSlot_ok hs) (AdO.rfl ob)
    ·obtain ⟨s, hs, rfl⟩ := Option.map_eq_some_iff.mp hq
     exact Conv.adopt k W f hk.1 hk.2 (adSlot_ok hs) (AdO.rfl ob)
    ·obtain ⟨b, hb, rfl⟩ := Option.map_eq_some_iff.mp hq
     exact Conv.adopt k W f hk.1 hk.2 (AdS.rfl sl) (adBox_ok hb)
   exact a.trans (Conv.adsAll r h)
theorem Conv.ads {cx : Cx} (acts : List (AdP × Nat × Nat × (Nat → List PV))) {sl sl' : List (Nat × MV)} {ob ob' : List (Nat × Obj)} (h : adAll acts sl ob = some (sl', ob') := by kernel_rfl) : Conv cx (mkSt sl ob) (mkSt sl' ob') := Conv.adsAll acts h
theorem Conv.frz {cx : Cx} (ks : List Nat) {sl sl' : List (Nat × MV)} {ob ob' : List (Nat × Obj)} (h : frzAll ks (sl, ob) = (sl', ob') := by kernel_rfl) : Conv cx (mkSt sl ob) (mkSt sl' ob') := Conv.freezes ks h
section
variable {P : Program} {T : Ty} {cx : Cx} {σ : St} {Q : Exit → St → Prop} {R : Type}
theorem DW.rd {nt : Nat} (hT : TyGood P T) (hm : P.follows .mixedOrders = true) (hnt : cx.nt = nt) {ops : Array Oper} {id : Nat} {draw : Bool} {r : List Code} {sl0 : List (Nat × MV)} {ob0 : List (Nat × Obj)} (xs : List Orc) (ds : List Nat) (us : List (Nat × MV)) (dk : List Nat) (uo : List (Nat × Obj))
  {q : Prop} (hq : q) (hQ : DW P cx r (mkSt (up ds us sl0) (up dk uo ob0)) Q) (h : dregQ P T nt ops xs (keysW (up ds us sl0)) (keysW (up dk uo ob0)) draw (mkSt sl0 ob0) = some ((up ds us sl0, up dk uo ob0), q)) : DW P cx (.region id ops draw :: r) (mkSt sl0 ob0) Q :=
 DW.rk hT hm hnt xs _ _ hq h hQ
theorem DW.cv {c : Code} {r : List Code} {sl0 : List (Nat × MV)} {ob0 : List (Nat × Obj)} (ds : List Nat) (us : List (Nat × MV)) (dk : List Nat) (uo : List (Nat × Obj)) (h : Conv cx (mkSt sl0 ob0) (mkSt (up ds us sl0) (up dk uo ob0))) (k : DW P cx (c :: r) (mkSt (up ds us sl0) (up dk uo ob0)) Q) : DW P cx (c :: r) (mkSt sl0 ob0) Q := DW.conv h k
theorem Conv.eqK {sl0 sl : List (Nat × MV)} {ob0 ob : List (Nat × Obj)} (h : (sl0, ob0) = (sl, ob) := by kernel_rfl) : Conv cx (mkSt sl0 ob0) (mkSt sl ob) := by
 obtain ⟨rfl, rfl⟩ := Prod.mk.inj h
 exact .refl
theorem Conv.t0 {sl : List (Nat × MV)} {ob : List (Nat × Obj)} (h : (normSl (keysW sl) (keysW ob) σ, normOb (keysW ob) σ) = (patchS [] sl, patchO [] ob) := by kernel_rfl) : Conv cx σ (mkSt sl ob) := Conv.tp [] [] h .nil .nil
theorem condM {c : Operand} {x y : Code} {r : List Code} {b : Bool} {X Y : Option R} {res : R} (hm : (if b = true then X else Y) = some res) (h1 : b = true → X = some res → DW P cx (x :: r) σ Q) (h2 : b = false → Y = some res → DW P cx (y :: r) σ Q)
  (hk : constOK c = true := by kernel_rfl) (hc : ev σ c = .p (.v (.bool b)) := by kernel_rfl) : DW P cx (.cond c x y :: r) σ Q :=
 DW.cond b hk hc (fun e => h1 e (if_t e hm)) (fun e => h2 e (if_f e hm))
theorem condK {c : Operand} {x y : Code} {r : List Code} (b : Bool) (h1 : b = true → DW P cx (x :: r) σ Q) (h2 : b = false → DW P cx (y :: r) σ Q)
  (hk : constOK c = true := by kernel_rfl) (hc : ev σ c = .p (.v (.bool b)) := by kernel_rfl) : DW P cx (.cond c x y :: r) σ Q := DW.cond b hk hc h1 h2
theorem condT {c : Operand} {x y : Code} {r : List Code} {b : Bool} (hb : b = true) (h1 : DW P cx (x :: r) σ Q)
  (hk : constOK c = true := by kernel_rfl) (hc : ev σ c = .p (.v (.bool b)) := by kernel_rfl) : DW P cx (.cond c x y :: r) σ Q := DW.cond b hk hc (fun _ => h1) (fun e => by rw [hb] at e; cases e)
theorem condF {c : Operand} {x y : Code} {r : List Code} {b : Bool} (hb : b = false) (h1 : DW P cx (y :: r) σ Q)
  (hk : constOK c = true := by kernel_rfl) (hc : ev σ c = .p (.v (.bool b)) := by kernel_rfl) : DW P cx (.cond c x y :: r) σ Q := DW.cond b hk hc (fun e => by rw [hb] at e; cases e) (fun _ => h1)
theorem retK {results : List ResultVar} {m : Nat} {res : MV} {bs : List Body} (bs' : List Body) (ex : List Nat) (res' : MV) (h : fin T results m ex σ = some (res', bs') := by kernel_rfl) (e : res' = res := by rfl) (e2 : bs' = bs := by rfl) : finQ T results m res bs .ret σ := retOK ex res' h e e2
theorem endK {results : List ResultVar} {m : Nat} {res : MV} {bs : List Body} (bs' : List Body) (ex : List Nat) (res' : MV) (h : fin T results m ex σ = some (res', bs') := by kernel_rfl) (e : res' = res := by rfl) (e2 : bs' = bs := by rfl) : finQ T results m res bs .normal σ := endOK ex res' h e e2
theorem Sq {x y : Code} {r : List Code} (h : DW P cx (x :: y :: r) σ Q) : DW P cx (.seq x y :: r) σ Q := DW.seq h
theorem Sk {r : List Code} (h : DW P cx r σ Q) : DW P cx (.skip :: r) σ Q := DW.skip h
theorem Bk {id : Nat} {c : Code} {r : List Code} (h : DW P cx [c] σ (blockQ id (KQ P cx r Q))) : DW P cx (.block id c :: r) σ Q := DW.block h
theorem Jn {ι : Type} {c : Code} {r : List Code} (J : ι → St) (m : ι → Prop) (hj : ∀ i, m i → DW P cx r (J i) Q) (h : DW P cx [c] σ (joinQ cx J m (KQ P cx r Q))) : DW P cx (c :: r) σ Q := DW.join J m hj h
theorem jD {ι : Type} {J : ι → St} {m : ι → Prop} (i : ι) (h1 : m i) (h2 : Conv cx σ (J i)) : DW P cx [] σ (joinQ cx J m Q) := joinDone i h1 h2
theorem bD {ι : Type} {J : ι → St} {m : ι → Prop} {id : Nat} (i : ι) (h1 : m i) (h2 : Conv cx σ (J i)) : DW P cx [] σ (blockQ id (KQ P cx [] (joinQ cx J m Q))) := blockDone i h1 h2
theorem tv : True := trivial
theorem sj {a b : R} (h : some a = some b) : a = b := Option.some.inj h
theorem bo {α : Type} {x : Option α} {k : α → Option R} {r : R} (h : x.bind k = some r) : ∃ a, x = some a ∧ k a = some r := bind_open h
theorem go1 {p : Prop} [Decidable p] {x : Option R} {r : R} (h : (if p then x else none) = some r) : p ∧ x = some r := guard_open h
theorem go2 {p q : Prop} [Decidable p] [Decidable q] {x : Option R} {r : R} (h : (if p then if q then x else none else none) = some r) : p ∧ q ∧ x = some r := ⟨(guard_open h).1, guard_open (guard_open h).2⟩
theorem go3 {p q s : Prop} [Decidable p] [Decidable q] [Decidable s] {x : Option R} {r : R} (h : (if p then if q then if s then x else none else none else none) = some r) : p ∧ q ∧ s ∧ x = some r := ⟨(guard_open h).1, go2 (guard_open h).2⟩
theorem go4 {p q s t : Prop} [Decidable p] [Decidable q] [Decidable s] [Decidable t] {x : Option R} {r : R} (h : (if p then if q then if s then if t then x else none else none else none else none) = some r) : p ∧ q ∧ s ∧ t ∧ x = some r := ⟨(guard_open h).1, go3 (guard_open h).2⟩
end
end Go.Dm

/- Types of the program. -/
namespace Go.Dm
open Go.Proofs
set_option linter.unusedVariables false
def Tt : Ty := [(3, ⟨.int .i64, 1, 8, [.int .i64 0], false⟩),
  (4, ⟨.bool, 1, 1, [.bool false], false⟩),
  (5, ⟨.int .u8, 1, 1, [.int .u8 0], false⟩),
  (9, ⟨.str, 1, 16, [.string ByteArray.empty], false⟩),
  (22, ⟨.slice 3, 1, 24, [.slice none 0 0], false⟩),
  (27, ⟨.slice 37, 1, 24, [.slice none 0 0], false⟩),
  (29, ⟨.struct [(0, 27), (1, 3)], 2, 32, [.slice none 0 0, .int .i64 0], false⟩),
  (30, ⟨.slice 61, 1, 24, [.slice none 0 0], false⟩),
  (32, ⟨.struct [(0, 29), (2, 30), (3, 3)], 4, 64, [.slice none 0 0, .int .i64 0, .slice none 0 0, .int .i64 0], false⟩),
  (37, ⟨.struct [(0, 3), (1, 3), (2, 9), (3, 3), (4, 3), (5, 3)], 6, 56, [.int .i64 0, .int .i64 0, .string ByteArray.empty, .int .i64 0, .int .i64 0, .int .i64 0], false⟩),
  (50, ⟨.int .i64, 1, 8, [.int .i64 0], false⟩),
  (61, ⟨.struct [(0, 3), (1, 3), (2, 3), (3, 3)], 4, 32, [.int .i64 0, .int .i64 0, .int .i64 0, .int .i64 0], false⟩),
  (88, ⟨.struct [(0, 22), (1, 3)], 2, 32, [.slice none 0 0, .int .i64 0], false⟩),
  (134, ⟨.slice 9, 1, 24, [.slice none 0 0], false⟩),
  (135, ⟨.map 3 3, 1, 8, [(.map none)], false⟩),
  (143, ⟨.int .u64, 1, 8, [.int .u64 0], false⟩),
  (145, ⟨.slice 5, 1, 24, [.slice none 0 0], false⟩),
  (148, ⟨.int .i64, 1, 8, [.int .i64 0], false⟩),
  (157, ⟨.int .u64, 1, 8, [.int .u64 0], false⟩),
  (159, ⟨.int .u64, 1, 8, [.int .u64 0], false⟩)]
theorem Tgood : TyGood Tryz.prog Tt := tyGood_of ⟨⟨⟨by kernel_rfl, by kernel_rfl⟩, trivial⟩, ⟨⟨by kernel_rfl, by kernel_rfl⟩, trivial⟩, ⟨⟨by kernel_rfl, by kernel_rfl⟩, trivial⟩, ⟨⟨by kernel_rfl, by kernel_rfl⟩, trivial⟩, ⟨⟨by kernel_rfl, by kernel_rfl⟩, trivial⟩, ⟨⟨by kernel_rfl, by kernel_rfl⟩, trivial⟩, ⟨⟨by kernel_rfl, by kernel_rfl⟩, trivial⟩, ⟨⟨by kernel_rfl, by kernel_rfl⟩, trivial⟩, ⟨⟨by kernel_rfl, by kernel_rfl⟩, trivial⟩, ⟨⟨by kernel_rfl, by kernel_rfl⟩, trivial⟩, ⟨⟨by kernel_rfl, by kernel_rfl⟩, trivial⟩, ⟨⟨by kernel_rfl, by kernel_rfl⟩, trivial⟩, ⟨⟨by kernel_rfl, by kernel_rfl⟩, trivial⟩, ⟨⟨by kernel_rfl, by kernel_rfl⟩, trivial⟩, ⟨⟨by kernel_rfl, by kernel_rfl⟩, trivial⟩, ⟨⟨by kernel_rfl, by kernel_rfl⟩, trivial⟩, ⟨⟨by kernel_rfl, by kernel_rfl⟩, trivial⟩, ⟨⟨by kernel_rfl, by kernel_rfl⟩, trivial⟩, ⟨⟨by kernel_rfl, by kernel_rfl⟩, trivial⟩, ⟨⟨by kernel_rfl, by kernel_rfl⟩, trivial⟩, trivial⟩ (by kernel_rfl) (by kernel_rfl)
theorem mixed : Tryz.prog.follows .mixedOrders = true := by kernel_rfl
theorem RK {cx : Cx} {σ : St} {Q : Exit → St → Prop} {nt : Nat} (hnt : cx.nt = nt) {ops : Array Oper} {id : Nat} {draw : Bool} {r : List Code} (xs : List Orc) (sl : List (Nat × MV)) (ob : List (Nat × Obj))
    {q : Prop} (hq : q) (hQ : DW Tryz.prog cx r (mkSt sl ob) Q) (h : dregQ Tryz.prog Tt nt ops xs (keysW sl) (keysW ob) draw σ = some ((sl, ob), q) := by kernel_rfl) : DW Tryz.prog cx (.region id ops draw :: r) σ Q := DW.rk Tgood mixed hnt xs sl ob hq h hQ
theorem RD {cx : Cx} {Q : Exit → St → Prop} {nt : Nat} (hnt : cx.nt = nt) {ops : Array Oper} {id : Nat} {draw : Bool} {r : List Code} {sl0 : List (Nat × MV)} {ob0 : List (Nat × Obj)} (xs : List Orc) (ds : List Nat) (us : List (Nat × MV)) (dk : List Nat) (uo : List (Nat × Obj))
    {q : Prop} (hq : q) (hQ : DW Tryz.prog cx r (mkSt (up ds us sl0) (up dk uo ob0)) Q) (h : dregQ Tryz.prog Tt nt ops xs (keysW (up ds us sl0)) (keysW (up dk uo ob0)) draw (mkSt sl0 ob0) = some ((up ds us sl0, up dk uo ob0), q) := by kernel_rfl) : DW Tryz.prog cx (.region id ops draw :: r) (mkSt sl0 ob0) Q := DW.rd Tgood mixed hnt xs ds us dk uo hq hQ h
theorem SO {f : FuncId} {fn : Func} {c : Code} (hf : Tryz.prog.funcs[f]? = some fn) (hb : fn.body = some c)
    {args : List MV} {outs : List Body} {res : MV} {outs' news : List Body} (hlen : outs'.length = outs.length)
    (sl : List (Nat × MV)) (ob : List (Nat × Obj)) (hd : ∀ cx : Cx, cx.nt = fn.ntmps → DW Tryz.prog cx [c] (mkSt sl ob) (finQ Tt fn.results.toList outs.length res (outs' ++ news)))
    (hname : fn.name ≠ "runtime.NumGoroutine" := by decide) (hle : Nat.ble args.length fn.ntmps = true := by rfl) (hm : Nat.ble outs.length 1000 = true := by rfl)
    (h1 : normSl (upN args.length 0) (upN outs.length 0) ⟨fun t => (args[t]?).getD .any, objsL outs⟩ = sl := by kernel_rfl)
    (h2 : normOb (upN outs.length 0) ⟨fun t => (args[t]?).getD .any, objsL outs⟩ = ob := by kernel_rfl) :
    Spec Tryz.prog f args outs res outs' news := spec_of Tgood hf hname hb hlen (Nat.le_of_ble_eq_true hle) (Nat.le_of_ble_eq_true hm) h1 h2 fun cx hnt => DW.start (hd cx hnt)
theorem RN {cx : Cx} {σ : St} {Q : Exit → St → Prop} {nt : Nat} (hnt : cx.nt = nt) {ops : Array Oper} {id : Nat} {draw : Bool} {r : List Code} (xs : List Orc) (sl : List (Nat × MV)) (ob : List (Nat × Obj))
    (ps : List (Nat × MV)) (qs : List (Nat × Body)) {q : Prop} (hq : q) (h : dregQ Tryz.prog Tt nt ops xs (keysW sl) (keysW ob) draw σ = some ((patchS ps sl, patchO qs ob), q)) (hs : SP sl ps) (ho : OP ob qs)
    (hQ : DW Tryz.prog cx r (mkSt sl ob) Q) : DW Tryz.prog cx (.region id ops draw :: r) σ Q := DW.rn Tgood mixed hnt xs sl ob ps qs hq h hs ho hQ
theorem RT {cx : Cx} {σ : St} {nt : Nat} (hnt : cx.nt = nt) {ops : Array Oper} {draw : Bool} {sl : List (Nat × MV)} {ob : List (Nat × Obj)} (xs : List Orc)
    (ps : List (Nat × MV)) {q : Prop} (hq : q) (h : dregQ Tryz.prog Tt nt ops xs (keysW sl) (keysW ob) draw σ = some ((patchS ps sl, ob), q)) (hs : SP sl ps) : RegTo Tryz.prog cx ops draw σ sl ob := RegTo.rn Tgood mixed hnt xs ps hq h hs
end Go.Dm


/- Go functions compute their models, printed by a program. -/
namespace Go.Dm
open Go.Proofs
set_option linter.unusedVariables false
theorem Light_madeSpec (p0 : List Int) (RES : Bool) (hm : Light_made p0 = some RES) : Spec Tryz.prog 14 [.p (slI p0)] [] (pB RES) [] [] := by
 unfold Light_made at hm
 refine SO Tryz.func14 rfl rfl [(0, .p (slI p0))] [] ?_
 intro cx hnt
 refine Sq (RK hnt (.no :: []) [(0, .p (slI p0))] [] tv ?_)
 refine Sq (RK hnt (nn 4 []) [(2, pB (decide (((p0.length : Nat) : Int) ≤ 600)))] [] tv ?_)
 obtain rfl := sj hm
 exact DW.ret (retK [] [] (pB (decide (((p0.length : Nat) : Int) ≤ 600))))
abbrev o2 (ks : List Nat) (b : Bool) (RES : Bool) : Orc := .call 14 ks b (pB RES) [] []

abbrev c5e1 := ({ id := 1, parent := 0, name := ByteArray.empty, control := 0, kind := 0, owner := 0 } : Node)
theorem New_treeSpec (RES : Tree) (hm : New_tree = some RES) : Spec Tryz.prog 119 [] [] (.agg [ow 0 RES.nodes.length, pI RES.next]) [] [roNode RES.nodes] := by
 unfold New_tree at hm
 refine SO Tryz.func119 rfl rfl [] [] ?_
 intro cx hnt
 refine Sq (RK hnt (.no :: []) [(0, rr 1000)] [(1000, bx [.p (.sl .nil 0 0 (fun _ => [])), pI 0])] tv ?_)
 refine Sq (RN hnt (nn 4 []) [(0, rr 1000)] [(1000, bx [ow 1016 [(c5e1)].length, pI 2]), (1016, ob0 (roNode [(c5e1)]))] [] [(1000, .box [ow 1016 1, pI 2]), (1016, .row 6 1 (cut 6 [vi 1, vi 0, vs ByteArray.empty, vi 0, vi 0, vi 0]))] tv (by kernel_rfl) .nil (.cons rfl (.box (.cons (MLe.ownLen (enc := encNode) (d := dNode) (f := (cut 6 [vi 1, vi 0, vs ByteArray.empty, vi 0, vi 0, vi 0])) (RowIs.lit (enc := encNode) (d := dNode) (n := 1) (f := (cut 6 [vi 1, vi 0, vs ByteArray.empty, vi 0, vi 0, vi 0])) [(c5e1)] rfl (fun | 0, _ => rfl | n + 1, h => absurd h (by omega)))) (.cons .rfl .nil))) (.cons rfl (BLe.typed (RowIs.lit (enc := encNode) (d := dNode) (n := 1) (f := (cut 6 [vi 1, vi 0, vs ByteArray.empty, vi 0, vi 0, vi 0])) [(c5e1)] rfl (fun | 0, _ => rfl | n + 1, h => absurd h (by omega)))) .nil)) ?_)
 obtain rfl := sj hm
 exact DW.ret (retK [roNode [(c5e1)]] [1016] (.agg [ow 0 [(c5e1)].length, pI 2]))
abbrev o5 (ks : List Nat) (b : Bool) (RES : Tree) : Orc := .call 119 ks b (.agg [ow 0 RES.nodes.length, pI RES.next]) [] [roNode RES.nodes]

theorem New_memberSpec (RES : Hierarchy) (hm : New_member = some RES) : Spec Tryz.prog 63 [] [] (.agg [ow 0 RES.tree.nodes.length, pI RES.tree.next, ow 1 RES.tasks.length, pI RES.next]) [] [roNode RES.tree.nodes, roTask RES.tasks] := by
 unfold New_member at hm
 refine SO Tryz.func63 rfl rfl [] [] ?_
 intro cx hnt
 refine Sq (RK hnt (.no :: []) [(0, rr 1000)] [(1000, bx [.p (.sl .nil 0 0 (fun _ => [])), pI 0, .p (.sl .nil 0 0 (fun _ => [])), pI 0])] tv ?_)
 obtain ⟨r1, hr1, hm⟩ := bo hm
 refine Sq (RK hnt (o5 [] true r1 :: nn 2 []) [(0, rr 1000)] [(1000, bx [ow 1008 r1.nodes.length, pI r1.next, .p (.sl .nil 0 0 (fun _ => [])), pI 1]), (1008, ob0 (roNode r1.nodes))] (an (New_treeSpec r1 hr1) tv) ?_)
 refine DW.cv [] [] [] [(1000, bx [ow 1008 r1.nodes.length, pI r1.next, ow 100000 0, pI 1]), (100000, ob0 (roTask []))] (Conv.ads [(.o 1000 2, 100000, 4, elems encTask dTask [])]) ?_
 obtain rfl := sj hm
 exact DW.ret (retK [roNode r1.nodes, roTask []] [1008, 100000] (.agg [ow 0 r1.nodes.length, pI r1.next, ow 1 0, pI 1]))
abbrev o4 (ks : List Nat) (b : Bool) (RES : Hierarchy) : Orc := .call 63 ks b (.agg [ow 0 RES.tree.nodes.length, pI RES.tree.next, ow 1 RES.tasks.length, pI RES.next]) [] [roNode RES.tree.nodes, roTask RES.tasks]

theorem root_treeSpec (p0 : Node) (RES : Bool) (hm : root_tree p0 = some RES) : Spec Tryz.prog 152 [.p (.agg (encNode p0))] [] (pB RES) [] [] := by
 unfold root_tree at hm
 refine SO Tryz.func152 rfl rfl [(0, .p (.agg (encNode p0)))] [] ?_
 intro cx hnt
 refine Sq (RK hnt (nn 2 []) [(1, rr 1008)] [(1008, bx (pm (encNode p0)))] tv ?_)
 refine Sq (DW.regJ (sl2 := [(2, pB ((((p0.id == 1) && (p0.parent == 0)) && (beqS p0.name ByteArray.empty)) && (p0.kind == 0)))]) (ob2 := []) ?_ ?_)
 ·rcases bt (p0.id == 1) with h1 | h1
  ·rcases bt (p0.parent == 0) with h2 | h2
   ·rcases bt (beqS p0.name ByteArray.empty) with h3 | h3
    ·exact RT hnt (nn 7 (pT :: nn 4 (pT :: nn 4 (pT :: .no :: [])))) [(2, pB (p0.kind == 0))] (an4 h1 (an4 h2 (an4 h3 tv))) (by kernel_rfl) (.cons rfl (.of_eq (by rw [h1, h2, h3]; try rfl)) .nil)
    ·exact RT hnt (nn 7 (pT :: nn 4 (pT :: .no :: sk 3 (pF :: .no :: [])))) [(2, pB false)] (an4 h1 (an4 h2 (an4 h3 tv))) (by kernel_rfl) (.cons rfl (.of_eq (by rw [h1, h2, h3]; try rfl)) .nil)
   ·exact RT hnt (nn 7 (pT :: .no :: sk 3 (pF :: .no :: sk 3 (pF :: .no :: [])))) [(2, pB false)] (an4 h1 (an4 h2 (an4 ff tv))) (by kernel_rfl) (.cons rfl (.of_eq (by rw [h1, h2]; try rfl)) .nil)
  ·exact RT hnt (nn 4 (sk 3 (pF :: .no :: sk 3 (pF :: .no :: sk 3 (pF :: .no :: []))))) [(2, pB false)] (an4 h1 (an2 ff (an6 ff tv))) (by kernel_rfl) (.cons rfl (.of_eq (by rw [h1]; try rfl)) .nil)
 ·refine DW.ret ?_
  obtain rfl := sj hm
  exact retK [] [] (pB ((((p0.id == 1) && (p0.parent == 0)) && (beqS p0.name ByteArray.empty)) && (p0.kind == 0)))
abbrev o9 (ks : List Nat) (b : Bool) (RES : Bool) : Orc := .call 152 ks b (pB RES) [] []

theorem inner_nameSpec (p0 : Int) (RES : Bool) (hm : inner_name p0 = some RES) : Spec Tryz.prog 176 [.p (vk .u8 p0)] [] (pB RES) [] [] := by
 unfold inner_name at hm
 refine SO Tryz.func176 rfl rfl [(0, .p (vk .u8 p0))] [] ?_
 intro cx hnt
 refine Sq (RD hnt (.no :: []) [] [] [] [] tv ?_)
 refine Sq (DW.regJ (sl2 := [(2, pB ((((((decide (p0 ≥ 97)) && (decide (p0 ≤ 122))) || ((decide (p0 ≥ 65)) && (decide (p0 ≤ 90)))) || ((decide (p0 ≥ 48)) && (decide (p0 ≤ 57)))) || (p0 == 95)) || (p0 == 45)))]) (ob2 := []) ?_ ?_)
 ·rcases bt (decide (p0 ≥ 97)) with h1 | h1
  ·rcases bt (decide (p0 ≤ 122)) with h2 | h2
   ·exact RT hnt (nn 5 (pT :: .no :: sk 6 (pT :: .no :: sk 6 (pT :: .no :: sk 2 (pT :: .no :: sk 2 (pT :: .no :: [])))))) [(2, pB true)] (an3 h1 (an5 h2 (an5 tt (an6 tt tv)))) (by kernel_rfl) (.cons rfl (.of_eq (by rw [h1, h2]; try rfl)) .nil)
   ·rcases bt (decide (p0 ≥ 65)) with h3 | h3
    ·rcases bt (decide (p0 ≤ 90)) with h4 | h4
     ·exact RT hnt (nn 5 (pT :: nn 6 (pT :: pF :: .no :: sk 6 (pT :: .no :: sk 2 (pT :: .no :: sk 2 (pT :: .no :: [])))))) [(2, pB true)] (an3 h1 (an3 h2 (an2 h3 (an h2 (an h3 (an h2 (an5 h4 (an6 tt tv)))))))) (by kernel_rfl) (.cons rfl (.of_eq (by rw [h1, h2, h3, h4]; try rfl)) .nil)
     ·rcases bt (decide (p0 ≥ 48)) with h5 | h5
      ·rcases bt (decide (p0 ≤ 57)) with h6 | h6
       ·exact RT hnt (nn 5 (pT :: nn 6 (pT :: pF :: nn 6 (pT :: pF :: .no :: sk 2 (pT :: .no :: sk 2 (pT :: .no :: [])))))) [(2, pB true)] (an3 h1 (an3 h2 (an2 h3 (an h2 (an h3 (an h2 (an3 h4 (an2 h5 (an h4 (an h5 (an h4 (an3 h6 (an3 tt tv))))))))))))) (by kernel_rfl) (.cons rfl (.of_eq (by rw [h1, h2, h3, h4, h5, h6]; try rfl)) .nil)
       ·rcases bt (p0 == 95) with h7 | h7
        ·exact RT hnt (nn 5 (pT :: nn 6 (pT :: pF :: nn 6 (pT :: pF :: nn 3 (pF :: .no :: sk 2 (pT :: .no :: [])))))) [(2, pB true)] (an3 h1 (an3 h2 (an2 h3 (an h2 (an h3 (an h2 (an3 h4 (an2 h5 (an h4 (an h5 (an h4 (an3 h6 (an3 h7 tv))))))))))))) (by kernel_rfl) (.cons rfl (.of_eq (by rw [h1, h2, h3, h4, h5, h6, h7]; try rfl)) .nil)
        ·exact RT hnt (nn 5 (pT :: nn 6 (pT :: pF :: nn 6 (pT :: pF :: nn 3 (pF :: nn 3 (pF :: .no :: [])))))) [(2, pB (p0 == 45))] (an3 h1 (an3 h2 (an2 h3 (an h2 (an h3 (an h2 (an3 h4 (an2 h5 (an h4 (an h5 (an h4 (an3 h6 (an3 h7 tv))))))))))))) (by kernel_rfl) (.cons rfl (.of_eq (by rw [h1, h2, h3, h4, h5, h6, h7]; try rfl)) .nil)
      ·rcases bt (p0 == 95) with h8 | h8
       ·exact RT hnt (nn 5 (pT :: nn 6 (pT :: pF :: nn 4 (sk 2 (pF :: pF :: nn 3 (pF :: .no :: sk 2 (pT :: .no :: []))))))) [(2, pB true)] (an3 h1 (an3 h2 (an2 h3 (an h2 (an h3 (an h2 (an3 h4 (an2 h5 (an h4 (an h5 (an h4 (an3 ff (an3 h8 tv))))))))))))) (by kernel_rfl) (.cons rfl (.of_eq (by rw [h1, h2, h3, h4, h5, h8]; try rfl)) .nil)
       ·exact RT hnt (nn 5 (pT :: nn 6 (pT :: pF :: nn 4 (sk 2 (pF :: pF :: nn 3 (pF :: nn 3 (pF :: .no :: []))))))) [(2, pB (p0 == 45))] (an3 h1 (an3 h2 (an2 h3 (an h2 (an h3 (an h2 (an3 h4 (an2 h5 (an h4 (an h5 (an h4 (an3 ff (an3 h8 tv))))))))))))) (by kernel_rfl) (.cons rfl (.of_eq (by rw [h1, h2, h3, h4, h5, h8]; try rfl)) .nil)
    ·rcases bt (decide (p0 ≥ 48)) with h9 | h9
     ·rcases bt (decide (p0 ≤ 57)) with h10 | h10
      ·exact RT hnt (nn 5 (pT :: nn 4 (sk 2 (pF :: pF :: nn 6 (pT :: pF :: .no :: sk 2 (pT :: .no :: sk 2 (pT :: .no :: []))))))) [(2, pB true)] (an3 h1 (an3 h2 (an2 h3 (an h2 (an h3 (an h2 (an3 ff (an2 h9 (an ff (an h9 (an ff (an3 h10 (an3 tt tv))))))))))))) (by kernel_rfl) (.cons rfl (.of_eq (by rw [h1, h2, h3, h9, h10]; try rfl)) .nil)
      ·rcases bt (p0 == 95) with h11 | h11
       ·exact RT hnt (nn 5 (pT :: nn 4 (sk 2 (pF :: pF :: nn 6 (pT :: pF :: nn 3 (pF :: .no :: sk 2 (pT :: .no :: []))))))) [(2, pB true)] (an3 h1 (an3 h2 (an2 h3 (an h2 (an h3 (an h2 (an3 ff (an2 h9 (an ff (an h9 (an ff (an3 h10 (an3 h11 tv))))))))))))) (by kernel_rfl) (.cons rfl (.of_eq (by rw [h1, h2, h3, h9, h10, h11]; try rfl)) .nil)
       ·exact RT hnt (nn 5 (pT :: nn 4 (sk 2 (pF :: pF :: nn 6 (pT :: pF :: nn 3 (pF :: nn 3 (pF :: .no :: []))))))) [(2, pB (p0 == 45))] (an3 h1 (an3 h2 (an2 h3 (an h2 (an h3 (an h2 (an3 ff (an2 h9 (an ff (an h9 (an ff (an3 h10 (an3 h11 tv))))))))))))) (by kernel_rfl) (.cons rfl (.of_eq (by rw [h1, h2, h3, h9, h10, h11]; try rfl)) .nil)
     ·rcases bt (p0 == 95) with h12 | h12
      ·exact RT hnt (nn 5 (pT :: nn 4 (sk 2 (pF :: pF :: nn 4 (sk 2 (pF :: pF :: nn 3 (pF :: .no :: sk 2 (pT :: .no :: [])))))))) [(2, pB true)] (an3 h1 (an3 h2 (an2 h3 (an h2 (an h3 (an h2 (an3 ff (an2 h9 (an ff (an h9 (an4 ff (an3 h12 tv)))))))))))) (by kernel_rfl) (.cons rfl (.of_eq (by rw [h1, h2, h3, h9, h12]; try rfl)) .nil)
      ·exact RT hnt (nn 5 (pT :: nn 4 (sk 2 (pF :: pF :: nn 4 (sk 2 (pF :: pF :: nn 3 (pF :: nn 3 (pF :: .no :: [])))))))) [(2, pB (p0 == 45))] (an3 h1 (an3 h2 (an2 h3 (an h2 (an h3 (an h2 (an3 ff (an2 h9 (an ff (an h9 (an4 ff (an3 h12 tv)))))))))))) (by kernel_rfl) (.cons rfl (.of_eq (by rw [h1, h2, h3, h9, h12]; try rfl)) .nil)
  ·rcases bt (decide (p0 ≥ 65)) with h13 | h13
   ·rcases bt (decide (p0 ≤ 90)) with h14 | h14
    ·exact RT hnt (nn 3 (sk 2 (pF :: nn 6 (pT :: pF :: .no :: sk 6 (pT :: .no :: sk 2 (pT :: .no :: sk 2 (pT :: .no :: []))))))) [(2, pB true)] (an3 h1 (an3 ff (an2 h13 (an ff (an h13 (an ff (an5 h14 (an6 tt tv)))))))) (by kernel_rfl) (.cons rfl (.of_eq (by rw [h1, h13, h14]; try rfl)) .nil)
    ·rcases bt (decide (p0 ≥ 48)) with h15 | h15
     ·rcases bt (decide (p0 ≤ 57)) with h16 | h16
      ·exact RT hnt (nn 3 (sk 2 (pF :: nn 6 (pT :: pF :: nn 6 (pT :: pF :: .no :: sk 2 (pT :: .no :: sk 2 (pT :: .no :: []))))))) [(2, pB true)] (an3 h1 (an3 ff (an2 h13 (an ff (an h13 (an ff (an3 h14 (an2 h15 (an h14 (an h15 (an h14 (an3 h16 (an3 tt tv))))))))))))) (by kernel_rfl) (.cons rfl (.of_eq (by rw [h1, h13, h14, h15, h16]; try rfl)) .nil)
      ·rcases bt (p0 == 95) with h17 | h17
       ·exact RT hnt (nn 3 (sk 2 (pF :: nn 6 (pT :: pF :: nn 6 (pT :: pF :: nn 3 (pF :: .no :: sk 2 (pT :: .no :: []))))))) [(2, pB true)] (an3 h1 (an3 ff (an2 h13 (an ff (an h13 (an ff (an3 h14 (an2 h15 (an h14 (an h15 (an h14 (an3 h16 (an3 h17 tv))))))))))))) (by kernel_rfl) (.cons rfl (.of_eq (by rw [h1, h13, h14, h15, h16, h17]; try rfl)) .nil)
       ·exact RT hnt (nn 3 (sk 2 (pF :: nn 6 (pT :: pF :: nn 6 (pT :: pF :: nn 3 (pF :: nn 3 (pF :: .no :: []))))))) [(2, pB (p0 == 45))] (an3 h1 (an3 ff (an2 h13 (an ff (an h13 (an ff (an3 h14 (an2 h15 (an h14 (an h15 (an h14 (an3 h16 (an3 h17 tv))))))))))))) (by kernel_rfl) (.cons rfl (.of_eq (by rw [h1, h13, h14, h15, h16, h17]; try rfl)) .nil)
     ·rcases bt (p0 == 95) with h18 | h18
      ·exact RT hnt (nn 3 (sk 2 (pF :: nn 6 (pT :: pF :: nn 4 (sk 2 (pF :: pF :: nn 3 (pF :: .no :: sk 2 (pT :: .no :: [])))))))) [(2, pB true)] (an3 h1 (an3 ff (an2 h13 (an ff (an h13 (an ff (an3 h14 (an2 h15 (an h14 (an h15 (an h14 (an3 ff (an3 h18 tv))))))))))))) (by kernel_rfl) (.cons rfl (.of_eq (by rw [h1, h13, h14, h15, h18]; try rfl)) .nil)
      ·exact RT hnt (nn 3 (sk 2 (pF :: nn 6 (pT :: pF :: nn 4 (sk 2 (pF :: pF :: nn 3 (pF :: nn 3 (pF :: .no :: [])))))))) [(2, pB (p0 == 45))] (an3 h1 (an3 ff (an2 h13 (an ff (an h13 (an ff (an3 h14 (an2 h15 (an h14 (an h15 (an h14 (an3 ff (an3 h18 tv))))))))))))) (by kernel_rfl) (.cons rfl (.of_eq (by rw [h1, h13, h14, h15, h18]; try rfl)) .nil)
   ·rcases bt (decide (p0 ≥ 48)) with h19 | h19
    ·rcases bt (decide (p0 ≤ 57)) with h20 | h20
     ·exact RT hnt (nn 3 (sk 2 (pF :: nn 4 (sk 2 (pF :: pF :: nn 6 (pT :: pF :: .no :: sk 2 (pT :: .no :: sk 2 (pT :: .no :: [])))))))) [(2, pB true)] (an3 h1 (an3 ff (an2 h13 (an ff (an h13 (an4 ff (an2 h19 (an ff (an h19 (an ff (an3 h20 (an3 tt tv)))))))))))) (by kernel_rfl) (.cons rfl (.of_eq (by rw [h1, h13, h19, h20]; try rfl)) .nil)
     ·rcases bt (p0 == 95) with h21 | h21
      ·exact RT hnt (nn 3 (sk 2 (pF :: nn 4 (sk 2 (pF :: pF :: nn 6 (pT :: pF :: nn 3 (pF :: .no :: sk 2 (pT :: .no :: [])))))))) [(2, pB true)] (an3 h1 (an3 ff (an2 h13 (an ff (an h13 (an4 ff (an2 h19 (an ff (an h19 (an ff (an3 h20 (an3 h21 tv)))))))))))) (by kernel_rfl) (.cons rfl (.of_eq (by rw [h1, h13, h19, h20, h21]; try rfl)) .nil)
      ·exact RT hnt (nn 3 (sk 2 (pF :: nn 4 (sk 2 (pF :: pF :: nn 6 (pT :: pF :: nn 3 (pF :: nn 3 (pF :: .no :: [])))))))) [(2, pB (p0 == 45))] (an3 h1 (an3 ff (an2 h13 (an ff (an h13 (an4 ff (an2 h19 (an ff (an h19 (an ff (an3 h20 (an3 h21 tv)))))))))))) (by kernel_rfl) (.cons rfl (.of_eq (by rw [h1, h13, h19, h20, h21]; try rfl)) .nil)
    ·rcases bt (p0 == 95) with h22 | h22
     ·exact RT hnt (nn 3 (sk 2 (pF :: nn 4 (sk 2 (pF :: pF :: nn 4 (sk 2 (pF :: pF :: nn 3 (pF :: .no :: sk 2 (pT :: .no :: []))))))))) [(2, pB true)] (an3 h1 (an3 ff (an2 h13 (an ff (an h13 (an4 ff (an2 h19 (an ff (an h19 (an4 ff (an3 h22 tv))))))))))) (by kernel_rfl) (.cons rfl (.of_eq (by rw [h1, h13, h19, h22]; try rfl)) .nil)
     ·exact RT hnt (nn 3 (sk 2 (pF :: nn 4 (sk 2 (pF :: pF :: nn 4 (sk 2 (pF :: pF :: nn 3 (pF :: nn 3 (pF :: .no :: []))))))))) [(2, pB (p0 == 45))] (an3 h1 (an3 ff (an2 h13 (an ff (an h13 (an4 ff (an2 h19 (an ff (an h19 (an4 ff (an3 h22 tv))))))))))) (by kernel_rfl) (.cons rfl (.of_eq (by rw [h1, h13, h19, h22]; try rfl)) .nil)
 ·refine DW.ret ?_
  obtain rfl := sj hm
  exact retK [] [] (pB ((((((decide (p0 ≥ 97)) && (decide (p0 ≤ 122))) || ((decide (p0 ≥ 65)) && (decide (p0 ≤ 90)))) || ((decide (p0 ≥ 48)) && (decide (p0 ≤ 57)))) || (p0 == 95)) || (p0 == 45)))
abbrev o12 (ks : List Nat) (b : Bool) (RES : Bool) : Orc := .call 176 ks b (pB RES) [] []

theorem Valid_nameSpec (p0 : ByteArray) (RES : Bool) (hm : Valid_name p0 = some RES) : Spec Tryz.prog 167 [pS p0] [] (pB RES) [] [] := by
 unfold Valid_name at hm
 refine SO Tryz.func167 rfl rfl [(0, pS p0)] [] ?_
 intro cx hnt
 refine Sq (RK hnt (.no :: []) [(0, pS p0)] [] tv ?_)
 refine Sq (Sq (RN hnt (nn 4 []) [(0, pS p0), (6, .p (slOf 1 (encK .u8) 0 (bytesL p0))), (7, pI ((p0.size : Nat) : Int)), (8, pI 0)] [] [(6, .p (.sl .unk 1 p0.size (bytesF p0)))] [] tv (by kernel_rfl) (.cons rfl (MLe.typed RowIs.bytes) .nil) .nil ?_))
 refine Bk ?_
 obtain ⟨hc1, hm⟩ := go1 hm
 refine DW.rangeO (fun (k1 : Nat) (s1 : Unit) => mkSt [(0, pS p0), (6, .p (slOf 1 (encK .u8) 0 (bytesL p0))), (7, pI ((p0.size : Nat) : Int)), (8, pI ((k1 : Nat) : Int))] []) 0 hm .refl ?_
 intro k1 s1 n1 hk1 hs1 he1
 refine Sq (RD hnt (.no :: []) [] [(9, pB (decide (((k1 : Nat) : Int) < ((p0.size : Nat) : Int))))] [] [] tv ?_)
 refine Sq (condK (decide (((k1 : Nat) : Int) < ((p0.size : Nat) : Int))) ?_ ?_)
 ·intro h15
  have hlt1 : k1 < (bytesL p0).length := by have := of_decide_eq_true h15; have := bytesL_length p0; omega
  have hm := hs1 hlt1
  unfold Valid_nameL1 at hm
  refine Sk ?_
  refine Sq (Bk ?_)
  refine Sq (RD hnt (nn 3 []) [9] [(4, .p (vk .u8 ((bytesL p0).getD k1 0)))] [] [] (an (nn0 k1) (an (ltc hlt1) tv)) ?_)
  obtain ⟨r16, hr16, hm⟩ := bo hm
  refine Sq (RD hnt (.no :: o12 [] true r16 :: .no :: []) [4] [(14, pB (!r16))] [] [] (an (inner_nameSpec ((bytesL p0).getD k1 0) r16 hr16) tv) ?_)
  refine condM hm ?_ ?_
  ·intro h17 hm
   refine Sq (RK hnt (.no :: []) [(2, pB false)] [] tv ?_)
   obtain rfl := sj hm
   exact DW.ret (retK [] [] (pB false))
  ·intro h17 hm
   refine Sk ?_
   refine DW.done ?_
   show DW _ _ _ _ _
   refine RD hnt (nn 2 []) [14] [(8, pI (w64 (((k1 : Nat) : Int) + 1)))] [] [] tv ?_
   exact jD () ⟨hlt1, hm⟩ (Conv.tp [(8, pI (w64 (((k1 : Nat) : Int) + 1)))] [] (by kernel_rfl) (.cons rfl (.of_eq (congrArg pI (w64_succ hlt1 hc1))) .nil) .nil)
 ·intro h15
  have hge1 : ¬ k1 < (bytesL p0).length := by have := of_decide_eq_false h15; have := bytesL_length p0; omega
  have hm := he1 hge1
  unfold Valid_nameD1 at hm
  refine DW.exit ?_
  refine joinQ_exit ?_
  refine KQ_exit ?_
  refine blockQ_exit ?_
  show DW _ _ _ _ _
  refine Sq ?_
  refine Jn (ι := Bool) (fun (y3 : Bool) => mkSt [(2, pB y3)] []) (fun y3 => Valid_nameJ3 y3 = some RES) ?_ ?_
  ·intro y3 hm
   unfold Valid_nameJ3 at hm
   obtain rfl := sj hm
   exact DW.ret (retK [] [] (pB y3))
  ·rcases bt (!(beqS p0 ByteArray.empty)) with h18 | h18
   ·replace hm := if_t h18 hm
    rcases bt (decide (((p0.size : Nat) : Int) ≤ 32)) with h19 | h19
    ·replace hm := if_t h19 hm
     obtain ⟨g20, hm⟩ := go1 hm
     refine RK hnt (nn 6 (pT :: nn 4 (pT :: .no :: []))) [(2, pB ((((byteAt p0 0) : Nat) : Int) != 45))] [] (an4 h18 (an2 h19 (an (nn0 0) (an (ltc g20) (an2 h19 tv))))) ?_
     exact jD ((((byteAt p0 0) : Nat) : Int) != 45) hm .refl
    ·replace hm := if_f h19 hm
     refine RK hnt (nn 6 (pT :: .no :: sk 3 (pF :: .no :: []))) [(2, pB false)] [] (an4 h18 (an4 h19 tv)) ?_
     exact jD false hm .refl
   ·replace hm := if_f h18 hm
    refine RK hnt (nn 3 (sk 3 (pF :: .no :: sk 3 (pF :: .no :: [])))) [(2, pB false)] [] (an4 h18 (an4 ff tv)) ?_
    exact jD false hm .refl
abbrev o11 (ks : List Nat) (b : Bool) (RES : Bool) : Orc := .call 167 ks b (pB RES) [] []

abbrev c10e1 (p0 : List Node) (k1 : Nat) := (p0.getD k1 (default : Node))
abbrev c10e2 (p1 : Node) : Nat × Obj := (1024, bx (pm (encNode p1)))
theorem fine_treeSpec (p0 : List Node) (p1 : Node) (RES : Bool) (hm : fine_tree p0 p1 = some RES) : Spec Tryz.prog 153 [.p (slNode p0), .p (.agg (encNode p1))] [] (pB RES) [] [] := by
 unfold fine_tree at hm
 refine SO Tryz.func153 rfl rfl [(0, .p (slNode p0)), (1, .p (.agg (encNode p1)))] [] ?_
 intro cx hnt
 refine Sq (RD hnt (nn 2 []) [1] [(3, rr 1024)] [] [(c10e2 p1)] tv ?_)
 obtain ⟨g1, hm⟩ := go1 hm
 refine Sq (Sq ?_)
 refine Jn (ι := Bool) (fun (y1 : Bool) => mkSt [(0, .p (slNode p0)), (3, rr 1024), (33, pB y1)] [(c10e2 p1)]) (fun y1 => (fine_treeJ1 p0 p1) y1 = some RES) ?_ ?_
 ·intro y1 hm
  unfold fine_treeJ1 at hm
  refine condM hm ?_ ?_
  ·intro h6 hm
   refine Sq (RK hnt (.no :: []) [(4, pB false)] [] tv ?_)
   obtain rfl := sj hm
   exact DW.ret (retK [] [] (pB false))
  ·intro h6 hm
   refine Sk ?_
   refine Sq (RD hnt (.no :: []) [33] [(5, pB false)] [] [] tv ?_)
   refine Sq (Sq (RD hnt (nn 3 []) [0] [(34, .p (slNode p0)), (35, pI ((p0.length : Nat) : Int)), (36, pI 0)] [] [] tv ?_))
   refine Bk ?_
   obtain ⟨hc1, hm⟩ := go1 hm
   refine DW.rangeO (fun (k1 : Nat) (s1 : Bool) => mkSt [(3, rr 1024), (5, pB s1), (34, .p (slNode p0)), (35, pI ((p0.length : Nat) : Int)), (36, pI ((k1 : Nat) : Int))] [(c10e2 p1)]) dNode hm Conv.eqK ?_
   intro k1 s1 n1 hk1 hs1 he1
   refine Sq (RD hnt (.no :: []) [] [(37, pB (decide (((k1 : Nat) : Int) < ((p0.length : Nat) : Int))))] [] [] tv ?_)
   refine Sq (condK (decide (((k1 : Nat) : Int) < ((p0.length : Nat) : Int))) ?_ ?_)
   ·intro h16
    have hlt1 : k1 < p0.length := by have := of_decide_eq_true h16; omega
    have hm := hs1 hlt1
    unfold fine_treeL1 at hm
    refine Sk ?_
    refine Sq (Bk ?_)
    refine Sq (RD hnt (nn 4 []) [37] [(7, rr 1056)] [] [(1056, bx (pm (encNode (c10e1 p0 k1))))] (an (nn0 k1) (an (ltc hlt1) tv)) ?_)
    refine Sq (DW.regJ (sl2 := [(3, rr 1024), (5, pB (s1 || ((c10e1 p0 k1).id == p1.parent))), (7, rr 1056), (34, .p (slNode p0)), (35, pI ((p0.length : Nat) : Int)), (36, pI ((k1 : Nat) : Int))]) (ob2 := [(c10e2 p1), (1056, bx (pm (encNode (c10e1 p0 k1))))]) ?_ ?_)
    ·rcases bt s1 with h17 | h17
     ·exact RT hnt (nn 2 (sk 5 (pT :: .no :: []))) [(5, pB true)] (an6 h17 tv) (by kernel_rfl) (.cons rfl (.of_eq (by rw [h17]; try rfl)) .nil)
     ·exact RT hnt (nn 7 (pF :: .no :: [])) [(5, pB ((c10e1 p0 k1).id == p1.parent))] (an6 h17 tv) (by kernel_rfl) (.cons rfl (.of_eq (by rw [h17]; try rfl)) .nil)
    ·refine Sq (DW.regJ (sl2 := [(3, rr 1024), (5, pB (s1 || ((c10e1 p0 k1).id == p1.parent))), (34, .p (slNode p0)), (35, pI ((p0.length : Nat) : Int)), (36, pI ((k1 : Nat) : Int)), (59, pB (((c10e1 p0 k1).parent == p1.parent) && (beqS (c10e1 p0 k1).name p1.name)))]) (ob2 := [(c10e2 p1)]) ?_ ?_)
     ·rcases bt ((c10e1 p0 k1).parent == p1.parent) with h18 | h18
      ·exact RT hnt (nn 11 (pT :: [])) [(59, pB (beqS (c10e1 p0 k1).name p1.name))] (an6 h18 tv) (by kernel_rfl) (.cons rfl (.of_eq (by rw [h18]; try rfl)) .nil)
      ·exact RT hnt (nn 6 (sk 5 (pF :: []))) [(59, pB false)] (an6 h18 tv) (by kernel_rfl) (.cons rfl (.of_eq (by rw [h18]; try rfl)) .nil)
     ·refine condM hm ?_ ?_
      ·intro h19 hm
       refine Sq (RK hnt (.no :: []) [(4, pB false)] [] tv ?_)
       obtain rfl := sj hm
       exact DW.ret (retK [] [] (pB false))
      ·intro h19 hm
       refine Sk ?_
       refine DW.done ?_
       show DW _ _ _ _ _
       refine RD hnt (nn 2 []) [59] [(36, pI (w64 (((k1 : Nat) : Int) + 1)))] [] [] tv ?_
       exact jD (s1 || ((c10e1 p0 k1).id == p1.parent)) ⟨hlt1, hm⟩ (Conv.tp [(36, pI (w64 (((k1 : Nat) : Int) + 1)))] [] (by kernel_rfl) (.cons rfl (.of_eq (congrArg pI (w64_succ hlt1 hc1))) .nil) .nil)
   ·intro h16
    have hge1 : ¬ k1 < p0.length := by have := of_decide_eq_false h16; omega
    have hm := he1 hge1
    unfold fine_treeD1 at hm
    refine DW.exit ?_
    refine joinQ_exit ?_
    refine KQ_exit ?_
    refine blockQ_exit ?_
    show DW _ _ _ _ _
    refine Sq (RK hnt (nn 2 []) [(4, pB s1)] [] tv ?_)
    obtain rfl := sj hm
    exact DW.ret (retK [] [] (pB s1))
 ·rcases bt (decide (p1.id ≤ (p0.getD (Int.toNat (w64 (((p0.length : Nat) : Int) - 1))) dNode).id)) with h2 | h2
  ·replace hm := if_t h2 hm
   refine RD hnt (nn 11 (sk 4 (pT :: .no :: sk 8 (pT :: [])))) [] [(33, pB true)] [] [] (an g1.1 (an g1.2 (an5 h2 (an6 tt tv)))) ?_
   exact jD true hm Conv.eqK
  ·replace hm := if_f h2 hm
   obtain ⟨r3, hr3, hm⟩ := bo hm
   rcases bt (!r3) with h4 | h4
   ·replace hm := if_t h4 hm
    refine RD hnt (nn 13 (o11 [] true r3 :: .no :: pF :: .no :: sk 8 (pT :: []))) [] [(33, pB true)] [] [] (an g1.1 (an g1.2 (an3 h2 (an (Valid_nameSpec p1.name r3 hr3) (an2 h2 (an6 h4 tv)))))) ?_
    exact jD true hm Conv.eqK
   ·replace hm := if_f h4 hm
    rcases bt (p1.kind != 0) with h5 | h5
    ·replace hm := if_t h5 hm
     refine RD hnt (nn 13 (o11 [] true r3 :: .no :: pF :: nn 8 (pT :: pF :: []))) [] [(33, pB (p1.kind != 1))] [] [] (an g1.1 (an g1.2 (an3 h2 (an (Valid_nameSpec p1.name r3 hr3) (an2 h2 (an4 h4 (an3 h5 (an h4 (an h5 (an h4 tv)))))))))) ?_
     exact jD (p1.kind != 1) hm Conv.eqK
    ·replace hm := if_f h5 hm
     refine RD hnt (nn 13 (o11 [] true r3 :: .no :: pF :: nn 5 (sk 3 (pF :: pF :: [])))) [] [(33, pB false)] [] [] (an g1.1 (an g1.2 (an3 h2 (an (Valid_nameSpec p1.name r3 hr3) (an2 h2 (an4 h4 (an3 h5 (an h4 (an h5 (an h4 tv)))))))))) ?_
     exact jD false hm Conv.eqK
abbrev o10 (ks : List Nat) (b : Bool) (RES : Bool) : Orc := .call 153 ks b (pB RES) [] []

abbrev c8e1 (p0 : Tree) (k1 : Nat) := (p0.nodes.getD k1 (default : Node))
abbrev c8e2 (p0 : Tree) : Nat × MV := (27, pI ((p0.nodes.length : Nat) : Int))
abbrev c8e3 (p0 : Tree) : Nat × Obj := (1008, bx (pm (encTree p0)))
theorem Check_treeSpec (p0 : Tree) (RES : Bool) (hm : Check_tree p0 = some RES) : Spec Tryz.prog 108 [.p (.agg (encTree p0))] [] (pB RES) [] [] := by
 unfold Check_tree at hm
 refine SO Tryz.func108 rfl rfl [(0, .p (.agg (encTree p0)))] [] ?_
 intro cx hnt
 refine Sq (RK hnt (nn 2 []) [(1, rr 1008)] [(c8e3 p0)] tv ?_)
 refine Sq (Sq ?_)
 refine Jn (ι := Bool) (fun (y1 : Bool) => mkSt [(1, rr 1008), (23, pB y1)] [(c8e3 p0)]) (fun y1 => (Check_treeJ1 p0) y1 = some RES) ?_ ?_
 ·intro y1 hm
  unfold Check_treeJ1 at hm
  refine condM hm ?_ ?_
  ·intro h5 hm
   refine Sq (RK hnt (.no :: []) [(2, pB false)] [] tv ?_)
   obtain rfl := sj hm
   exact DW.ret (retK [] [] (pB false))
  ·intro h5 hm
   refine Sk ?_
   refine Sq (RD hnt (nn 2 []) [23] [(3, .mref 1192 0)] [] [(1192, ob0 (mapOf vi (vi 0) (IMap.empty 0)))] tv ?_)
   refine Sq (Sq (RD hnt (nn 4 []) [] [(26, .p (slNode p0.nodes)), (c8e2 p0), (28, pI 0)] [] [] tv ?_))
   refine Bk ?_
   obtain ⟨hc1, hm⟩ := go1 hm
   refine DW.rangeO (fun (k1 : Nat) (s1 : IMap Int) => mkSt [(1, rr 1008), (3, .mref 1192 0), (26, .p (slNode p0.nodes)), (c8e2 p0), (28, pI ((k1 : Nat) : Int))] [(c8e3 p0), (1192, ob0 (mapOf vi (vi 0) s1))]) dNode hm Conv.eqK ?_
   intro k1 s1 n1 hk1 hs1 he1
   refine Sq (RD hnt (.no :: []) [] [(29, pB (decide (((k1 : Nat) : Int) < ((p0.nodes.length : Nat) : Int))))] [] [] tv ?_)
   refine Sq (condK (decide (((k1 : Nat) : Int) < ((p0.nodes.length : Nat) : Int))) ?_ ?_)
   ·intro h36
    have hlt1 : k1 < p0.nodes.length := by have := of_decide_eq_true h36; omega
    have hm := hs1 hlt1
    unfold Check_treeL1 at hm
    refine Sk ?_
    refine Sq (Bk ?_)
    refine Sq (RD hnt (nn 6 []) [29] [(4, pI ((k1 : Nat) : Int)), (5, rr 1040)] [] [(1040, bx (pm (encNode (c8e1 p0 k1))))] (an (nn0 k1) (an (ltc hlt1) tv)) ?_)
    refine Sq (Sq ?_)
    refine Jn (ι := Bool) (fun (y8 : Bool) => mkSt [(1, rr 1008), (3, .mref 1192 0), (4, pI ((k1 : Nat) : Int)), (5, rr 1040), (26, .p (slNode p0.nodes)), (c8e2 p0), (28, pI ((k1 : Nat) : Int)), (64, pB y8)] [(c8e3 p0), (1040, bx (pm (encNode (c8e1 p0 k1)))), (1192, ob0 (mapOf vi (vi 0) s1))]) (fun y8 => (Check_treeJ8 k1 (c8e1 p0 k1) s1 n1) y8 = some RES) ?_ ?_
    ·intro y8 hm
     unfold Check_treeJ8 at hm
     refine condM hm ?_ ?_
     ·intro h44 hm
      refine Sq (RK hnt (.no :: []) [(2, pB false)] [] tv ?_)
      obtain rfl := sj hm
      exact DW.ret (retK [] [] (pB false))
     ·intro h44 hm
      refine Sk ?_
      refine Sq (Sq (RD hnt (nn 2 []) [4, 64] [(66, pB (decide (((k1 : Nat) : Int) > 0)))] [] [] tv ?_))
      refine Jn (ι := IMap Int) (fun (y9 : IMap Int) => mkSt [(1, rr 1008), (3, .mref 1192 0), (5, rr 1040), (26, .p (slNode p0.nodes)), (c8e2 p0), (28, pI ((k1 : Nat) : Int))] [(c8e3 p0), (1040, bx (pm (encNode (c8e1 p0 k1)))), (1192, ob0 (mapOf vi (vi 0) y9))]) (fun y9 => (Check_treeJ9 (c8e1 p0 k1) n1) y9 = some RES) ?_ ?_
      ·intro y9 hm
       unfold Check_treeJ9 at hm
       refine Sq (RD hnt (nn 5 []) [5] [(79, pB (decide ((y9.get (c8e1 p0 k1).id) > 8)))] [1040] [] (an (rfl : vi 0 = vi 0) tv) ?_)
       refine condM hm ?_ ?_
       ·intro h46 hm
        refine Sq (RK hnt (.no :: []) [(2, pB false)] [] tv ?_)
        obtain rfl := sj hm
        exact DW.ret (retK [] [] (pB false))
       ·intro h46 hm
        refine Sk ?_
        refine DW.done ?_
        show DW _ _ _ _ _
        refine RD hnt (nn 2 []) [79] [(28, pI (w64 (((k1 : Nat) : Int) + 1)))] [] [] tv ?_
        exact jD y9 ⟨hlt1, hm⟩ (Conv.tp [(28, pI (w64 (((k1 : Nat) : Int) + 1)))] [] (by kernel_rfl) (.cons rfl (.of_eq (congrArg pI (w64_succ hlt1 hc1))) .nil) .nil)
      ·refine condM hm ?_ ?_
       ·intro h45 hm
        refine RN hnt (nn 9 []) [(1, rr 1008), (3, .mref 1192 0), (5, rr 1040), (26, .p (slNode p0.nodes)), (c8e2 p0), (28, pI ((k1 : Nat) : Int))] [(c8e3 p0), (1040, bx (pm (encNode (c8e1 p0 k1)))), (1192, ob0 (mapOf vi (vi 0) (s1.set (c8e1 p0 k1).id (w64 ((s1.get (c8e1 p0 k1).parent) + 1)))))] [] [(1192, .mp (vi 0) (updI s1.has (c8e1 p0 k1).id true) (updI (fun j => vi (s1.get j)) (c8e1 p0 k1).id (vi (w64 ((s1.get (c8e1 p0 k1).parent) + 1)))))] (an (rfl : vi 0 = vi 0) tv) (by kernel_rfl) .nil (.cons rfl (map_set (w64 ((s1.get (c8e1 p0 k1).parent) + 1)) rfl) .nil) ?_
        exact jD (s1.set (c8e1 p0 k1).id (w64 ((s1.get (c8e1 p0 k1).parent) + 1))) hm .refl
       ·intro h45 hm
        refine Sk ?_
        exact jD s1 hm Conv.t0
    ·rcases bt (decide ((c8e1 p0 k1).control < 0)) with h37 | h37
     ·replace hm := if_t h37 hm
      refine RD hnt (nn 4 (sk 4 (pT :: .no :: sk 3 (pT :: .no :: sk 3 (pT :: .no :: sk 11 (pT :: [])))))) [] [(64, pB true)] [] [] (an5 h37 (an tt (an6 tt (an6 tt tv)))) ?_
      exact jD true hm Conv.eqK
     ·replace hm := if_f h37 hm
      rcases bt ((kandNot .i64 (c8e1 p0 k1).control 31) != 0) with h38 | h38
      ·replace hm := if_t h38 hm
       refine RD hnt (nn 8 (pF :: .no :: sk 3 (pT :: .no :: sk 3 (pT :: .no :: sk 11 (pT :: []))))) [] [(64, pB true)] [] [] (an5 h37 (an4 h38 (an3 tt (an6 tt tv)))) ?_
       exact jD true hm Conv.eqK
      ·replace hm := if_f h38 hm
       rcases bt (decide ((c8e1 p0 k1).owner < 0)) with h39 | h39
       ·replace hm := if_t h39 hm
        refine RD hnt (nn 8 (pF :: nn 4 (pF :: .no :: sk 3 (pT :: .no :: sk 11 (pT :: []))))) [] [(64, pB true)] [] [] (an5 h37 (an4 h38 (an4 h39 (an5 tt tv)))) ?_
        exact jD true hm Conv.eqK
       ·replace hm := if_f h39 hm
        rcases bt (decide ((c8e1 p0 k1).owner > 1048576)) with h40 | h40
        ·replace hm := if_t h40 hm
         refine RD hnt (nn 8 (pF :: nn 4 (pF :: nn 4 (pF :: .no :: sk 11 (pT :: []))))) [] [(64, pB true)] [] [] (an5 h37 (an4 h38 (an4 h39 (an5 h40 tv)))) ?_
         exact jD true hm Conv.eqK
        ·replace hm := if_f h40 hm
         rcases bt (decide (((k1 : Nat) : Int) > 0)) with h41 | h41
         ·replace hm := if_t h41 hm
          obtain ⟨g42, hm⟩ := go1 hm
          obtain ⟨r43, hr43, hm⟩ := bo hm
          refine RD hnt (nn 8 (pF :: nn 4 (pF :: nn 4 (pF :: nn 9 (o10 [] true r43 :: .no :: pT :: pF :: []))))) [] [(64, pB (!r43))] [] [] (an5 h37 (an4 h38 (an4 h39 (an3 h40 (an4 h41 (an (by omega : (0 : Int) ≤ 0) (an (by omega : (0 : Int) ≤ ((k1 : Nat) : Int)) (an (by omega : ((k1 : Nat) : Int) ≤ ((p0.nodes.length : Nat) : Int)) (an2 h41 (an (Spec.args (xs := [.p (.sl .unk 6 k1 (elNode p0.nodes)), .p (.agg (encNode (c8e1 p0 k1)))]) (fine_treeSpec (p0.nodes.take k1) (c8e1 p0 k1) r43 hr43) (.cons (.p (PLe.typed (RowIs.elems.take (by omega)))) (.cons .rfl .nil))) (an h41 (an h40 (an h41 (an h40 tv)))))))))))))) ?_
          exact jD (!r43) hm Conv.eqK
         ·replace hm := if_f h41 hm
          refine RD hnt (nn 8 (pF :: nn 4 (pF :: nn 4 (pF :: nn 4 (sk 7 (pF :: pF :: [])))))) [] [(64, pB false)] [] [] (an5 h37 (an4 h38 (an4 h39 (an3 h40 (an h41 (an6 h41 (an h40 (an h41 (an h40 tv))))))))) ?_
          exact jD false hm Conv.eqK
   ·intro h36
    have hge1 : ¬ k1 < p0.nodes.length := by have := of_decide_eq_false h36; omega
    have hm := he1 hge1
    unfold Check_treeD1 at hm
    refine DW.exit ?_
    refine joinQ_exit ?_
    refine KQ_exit ?_
    refine blockQ_exit ?_
    show DW _ _ _ _ _
    obtain ⟨g47, hm⟩ := go1 hm
    refine Sq ?_
    refine Jn (ι := Bool) (fun (y10 : Bool) => mkSt [(2, pB y10)] []) (fun y10 => Check_treeJ10 y10 = some RES) ?_ ?_
    ·intro y10 hm
     unfold Check_treeJ10 at hm
     obtain rfl := sj hm
     exact DW.ret (retK [] [] (pB y10))
    ·rcases bt (decide (p0.next > (p0.nodes.getD (Int.toNat (w64 (((p0.nodes.length : Nat) : Int) - 1))) dNode).id)) with h48 | h48
     ·replace hm := if_t h48 hm
      refine RK hnt (nn 16 (pT :: .no :: [])) [(2, pB (decide (p0.next ≤ 2147483648)))] [] (an g47.1 (an g47.2 (an4 h48 tv))) ?_
      exact jD (decide (p0.next ≤ 2147483648)) hm .refl
     ·replace hm := if_f h48 hm
      refine RK hnt (nn 13 (sk 3 (pF :: .no :: []))) [(2, pB false)] [] (an g47.1 (an g47.2 (an4 h48 tv))) ?_
      exact jD false hm .refl
 ·rcases bt (decide (((p0.nodes.length : Nat) : Int) < 1)) with h1 | h1
  ·replace hm := if_t h1 hm
   refine RD hnt (nn 5 (sk 4 (pT :: .no :: sk 6 (pT :: [])))) [] [(23, pB true)] [] [] (an5 h1 (an tt (an6 tt tv))) ?_
   exact jD true hm Conv.eqK
  ·replace hm := if_f h1 hm
   rcases bt (decide (((p0.nodes.length : Nat) : Int) > 64)) with h2 | h2
   ·replace hm := if_t h2 hm
    refine RD hnt (nn 9 (pF :: .no :: sk 6 (pT :: []))) [] [(23, pB true)] [] [] (an5 h1 (an h2 (an6 h2 tv))) ?_
    exact jD true hm Conv.eqK
   ·replace hm := if_f h2 hm
    obtain ⟨g3, hm⟩ := go1 hm
    obtain ⟨r4, hr4, hm⟩ := bo hm
    refine RD hnt (nn 9 (pF :: nn 5 (o9 [] true r4 :: .no :: pF :: []))) [] [(23, pB (!r4))] [] [] (an5 h1 (an3 h2 (an (nn0 0) (an (ltc g3) (an2 h2 (an (root_treeSpec (p0.nodes.getD 0 dNode) r4 hr4) (an2 h2 tv))))))) ?_
    exact jD (!r4) hm Conv.eqK
abbrev o8 (ks : List Nat) (b : Bool) (RES : Bool) : Orc := .call 108 ks b (pB RES) [] []

theorem AtFa_crewSpec (p0 : Task) (p1 : Int) (RES : Bool) (hm : AtFa_crew p0 p1 = some RES) : Spec Tryz.prog 144 [.p (.agg (encTask p0)), rr 0] [.box [pI p1]] (pB RES) [.box [pI p1]] [] := by
 unfold AtFa_crew at hm
 refine SO Tryz.func144 rfl rfl [(0, .p (.agg (encTask p0))), (1, rr 0)] [(0, bx [pI p1])] ?_
 intro cx hnt
 refine Sq (RD hnt (nn 2 []) [0] [(2, rr 1016)] [] [(1016, bx (pm (encTask p0)))] tv ?_)
 refine Sq (RK hnt (nn 5 []) [(3, pB (p0.id == p1))] [(0, bx [pI p1])] tv ?_)
 obtain rfl := sj hm
 exact DW.ret (retK [.box [pI p1]] [] (pB (p0.id == p1)))

theorem IndexFunc_slices_TaskQAtFa_crewSpec (p0 : List Task) (p1c0 : Int) (RES : Int) (hm : IndexFunc_slices_TaskQAtFa_crew p0 p1c0 = some RES) : Spec Tryz.prog 143 [.p (slTask p0), .fn 144 [rr 0]] [.box [pI p1c0]] (pI RES) [.box [pI p1c0]] [] := by
 unfold IndexFunc_slices_TaskQAtFa_crew at hm
 refine SO Tryz.func143 rfl rfl [(0, .p (slTask p0)), (1, .fn 144 [rr 0])] [(0, bx [pI p1c0])] ?_
 intro cx hnt
 refine Sq (RD hnt (.no :: []) [] [] [] [] tv ?_)
 refine Sq (Sq (RD hnt (nn 3 []) [] [(7, pI ((p0.length : Nat) : Int)), (8, pI 0)] [] [] tv ?_))
 refine Bk ?_
 obtain ⟨hc1, hm⟩ := go1 hm
 refine DW.rangeO (fun (k1 : Nat) (s1 : Unit) => mkSt [(0, .p (slTask p0)), (1, .fn 144 [rr 0]), (7, pI ((p0.length : Nat) : Int)), (8, pI ((k1 : Nat) : Int))] [(0, bx [pI p1c0])]) dTask hm Conv.eqK ?_
 intro k1 s1 n1 hk1 hs1 he1
 refine Sq (RD hnt (.no :: []) [] [(9, pB (decide (((k1 : Nat) : Int) < ((p0.length : Nat) : Int))))] [] [] tv ?_)
 refine Sq (condK (decide (((k1 : Nat) : Int) < ((p0.length : Nat) : Int))) ?_ ?_)
 ·intro h9
  have hlt1 : k1 < p0.length := by have := of_decide_eq_true h9; omega
  have hm := hs1 hlt1
  unfold IndexFunc_slices_TaskQAtFa_crewL1 at hm
  refine Sk ?_
  refine Sq (Bk ?_)
  refine Sq (RD hnt (nn 2 []) [9] [(5, pI ((k1 : Nat) : Int))] [] [] tv ?_)
  obtain ⟨r10, hr10, hm⟩ := bo hm
  refine Sq (RD hnt (nn 5 (.call 144 [0] true (pB r10) [.box [pI p1c0]] [] :: [])) [] [(16, pB r10)] [] [] (an (nn0 k1) (an (ltc hlt1) (an (AtFa_crewSpec (p0.getD k1 (default : Task)) p1c0 r10 hr10) (an tv tv)))) ?_)
  refine condM hm ?_ ?_
  ·intro h11 hm
   refine Sq (RK hnt (nn 2 []) [(4, pI ((k1 : Nat) : Int))] [(0, bx [pI p1c0])] tv ?_)
   obtain rfl := sj hm
   exact DW.ret (retK [.box [pI p1c0]] [] (pI ((k1 : Nat) : Int)))
  ·intro h11 hm
   refine Sk ?_
   refine DW.done ?_
   show DW _ _ _ _ _
   refine RD hnt (nn 2 []) [5, 16] [(8, pI (w64 (((k1 : Nat) : Int) + 1)))] [] [] tv ?_
   exact jD () ⟨hlt1, hm⟩ (Conv.tp [(8, pI (w64 (((k1 : Nat) : Int) + 1)))] [] (by kernel_rfl) (.cons rfl (.of_eq (congrArg pI (w64_succ hlt1 hc1))) .nil) .nil)
 ·intro h9
  have hge1 : ¬ k1 < p0.length := by have := of_decide_eq_false h9; omega
  have hm := he1 hge1
  unfold IndexFunc_slices_TaskQAtFa_crewD1 at hm
  refine DW.exit ?_
  refine joinQ_exit ?_
  refine KQ_exit ?_
  refine blockQ_exit ?_
  show DW _ _ _ _ _
  refine Sq (RK hnt (.no :: []) [(4, pI (-1))] [(0, bx [pI p1c0])] tv ?_)
  obtain rfl := sj hm
  exact DW.ret (retK [.box [pI p1c0]] [] (pI (-1)))

theorem At_crewSpec (p0 : Hierarchy) (p1 : Int) (RES : Int) (hm : At_crew p0 p1 = some RES) : Spec Tryz.prog 95 [.p (.agg (encHierarchy p0)), pI p1] [] (pI RES) [] [] := by
 unfold At_crew at hm
 refine SO Tryz.func95 rfl rfl [(0, .p (.agg (encHierarchy p0))), (1, pI p1)] [] ?_
 intro cx hnt
 refine Sq (RK hnt (nn 3 []) [(2, rr 1016), (3, rr 1024)] [(1016, bx (pm (encHierarchy p0))), (1024, bx [pI p1])] tv ?_)
 obtain ⟨r1, hr1, hm⟩ := bo hm
 refine Sq (RK hnt (nn 3 (.call 143 [1024] true (pI r1) [.box [pI p1]] [] :: .no :: [])) [(4, pI r1)] [] (an (IndexFunc_slices_TaskQAtFa_crewSpec p0.tasks p1 r1 hr1) (an tv tv)) ?_)
 obtain rfl := sj hm
 exact DW.ret (retK [] [] (pI r1))
abbrev o15 (ks : List Nat) (b : Bool) (RES : Int) : Orc := .call 95 ks b (pI RES) [] []

theorem Find_crewSpec (p0 : Hierarchy) (p1 : Int) (RES : Task × Bool) (hm : Find_crew p0 p1 = some RES) : Spec Tryz.prog 104 [.p (.agg (encHierarchy p0)), pI p1] [] (.p (.tup [.agg (encTask RES.1), vb RES.2])) [] [] := by
 unfold Find_crew at hm
 refine SO Tryz.func104 rfl rfl [(0, .p (.agg (encHierarchy p0))), (1, pI p1)] [] ?_
 intro cx hnt
 refine Sq (RK hnt (nn 3 []) [(1, pI p1), (2, rr 1016), (4, rr 1032)] [(1016, bx (pm (encHierarchy p0))), (1032, bx [pI 0, pI 0, pI 0, pI 0])] tv ?_)
 obtain ⟨r1, hr1, hm⟩ := bo hm
 refine Sq (RD hnt (nn 2 (o15 [] true r1 :: .no :: [])) [1] [(6, pI r1)] [] [] (an (At_crewSpec p0 p1 r1 hr1) tv) ?_)
 refine Sq (Sq (RD hnt (nn 2 []) [] [(11, pB (decide (r1 < 0)))] [] [] tv ?_))
 refine condM hm ?_ ?_
 ·intro h2 hm
  refine Sq (RD hnt (nn 3 []) [2, 6, 11] [(5, pB false)] [1016] [] tv ?_)
  obtain rfl := sj hm
  exact DW.ret (retK [] [] (.p (.tup [.agg [vi 0, vi 0, vi 0, vi 0], vb false])))
 ·intro h2 hm
  refine Sk ?_
  obtain ⟨g3, hm⟩ := go1 hm
  refine Sq (RK hnt (nn 7 []) [(4, rr 1032), (5, pB true)] [(1032, bx (pm (encTask (p0.tasks.getD (Int.toNat r1) dTask))))] (an g3.1 (an g3.2 tv)) ?_)
  obtain rfl := sj hm
  exact DW.ret (retK [] [] (.p (.tup [.agg (encTask (p0.tasks.getD (Int.toNat r1) dTask)), vb true])))
abbrev o14 (ks : List Nat) (b : Bool) (RES : Task × Bool) : Orc := .call 104 ks b (.p (.tup [.agg (encTask RES.1), vb RES.2])) [] []

theorem AtFa_forestSpec (p0 : Node) (p1 : Int) (RES : Bool) (hm : AtFa_forest p0 p1 = some RES) : Spec Tryz.prog 150 [.p (.agg (encNode p0)), rr 0] [.box [pI p1]] (pB RES) [.box [pI p1]] [] := by
 unfold AtFa_forest at hm
 refine SO Tryz.func150 rfl rfl [(0, .p (.agg (encNode p0))), (1, rr 0)] [(0, bx [pI p1])] ?_
 intro cx hnt
 refine Sq (RD hnt (nn 2 []) [0] [(2, rr 1016)] [] [(1016, bx (pm (encNode p0)))] tv ?_)
 refine Sq (RK hnt (nn 5 []) [(3, pB (p0.id == p1))] [(0, bx [pI p1])] tv ?_)
 obtain rfl := sj hm
 exact DW.ret (retK [.box [pI p1]] [] (pB (p0.id == p1)))

theorem IndexFunc_slices_NodeQAtFa_forestSpec (p0 : List Node) (p1c0 : Int) (RES : Int) (hm : IndexFunc_slices_NodeQAtFa_forest p0 p1c0 = some RES) : Spec Tryz.prog 149 [.p (slNode p0), .fn 150 [rr 0]] [.box [pI p1c0]] (pI RES) [.box [pI p1c0]] [] := by
 unfold IndexFunc_slices_NodeQAtFa_forest at hm
 refine SO Tryz.func149 rfl rfl [(0, .p (slNode p0)), (1, .fn 150 [rr 0])] [(0, bx [pI p1c0])] ?_
 intro cx hnt
 refine Sq (RD hnt (.no :: []) [] [] [] [] tv ?_)
 refine Sq (Sq (RD hnt (nn 3 []) [] [(7, pI ((p0.length : Nat) : Int)), (8, pI 0)] [] [] tv ?_))
 refine Bk ?_
 obtain ⟨hc1, hm⟩ := go1 hm
 refine DW.rangeO (fun (k1 : Nat) (s1 : Unit) => mkSt [(0, .p (slNode p0)), (1, .fn 150 [rr 0]), (7, pI ((p0.length : Nat) : Int)), (8, pI ((k1 : Nat) : Int))] [(0, bx [pI p1c0])]) dNode hm Conv.eqK ?_
 intro k1 s1 n1 hk1 hs1 he1
 refine Sq (RD hnt (.no :: []) [] [(9, pB (decide (((k1 : Nat) : Int) < ((p0.length : Nat) : Int))))] [] [] tv ?_)
 refine Sq (condK (decide (((k1 : Nat) : Int) < ((p0.length : Nat) : Int))) ?_ ?_)
 ·intro h9
  have hlt1 : k1 < p0.length := by have := of_decide_eq_true h9; omega
  have hm := hs1 hlt1
  unfold IndexFunc_slices_NodeQAtFa_forestL1 at hm
  refine Sk ?_
  refine Sq (Bk ?_)
  refine Sq (RD hnt (nn 2 []) [9] [(5, pI ((k1 : Nat) : Int))] [] [] tv ?_)
  obtain ⟨r10, hr10, hm⟩ := bo hm
  refine Sq (RD hnt (nn 5 (.call 150 [0] true (pB r10) [.box [pI p1c0]] [] :: [])) [] [(16, pB r10)] [] [] (an (nn0 k1) (an (ltc hlt1) (an (AtFa_forestSpec (p0.getD k1 (default : Node)) p1c0 r10 hr10) (an tv tv)))) ?_)
  refine condM hm ?_ ?_
  ·intro h11 hm
   refine Sq (RK hnt (nn 2 []) [(4, pI ((k1 : Nat) : Int))] [(0, bx [pI p1c0])] tv ?_)
   obtain rfl := sj hm
   exact DW.ret (retK [.box [pI p1c0]] [] (pI ((k1 : Nat) : Int)))
  ·intro h11 hm
   refine Sk ?_
   refine DW.done ?_
   show DW _ _ _ _ _
   refine RD hnt (nn 2 []) [5, 16] [(8, pI (w64 (((k1 : Nat) : Int) + 1)))] [] [] tv ?_
   exact jD () ⟨hlt1, hm⟩ (Conv.tp [(8, pI (w64 (((k1 : Nat) : Int) + 1)))] [] (by kernel_rfl) (.cons rfl (.of_eq (congrArg pI (w64_succ hlt1 hc1))) .nil) .nil)
 ·intro h9
  have hge1 : ¬ k1 < p0.length := by have := of_decide_eq_false h9; omega
  have hm := he1 hge1
  unfold IndexFunc_slices_NodeQAtFa_forestD1 at hm
  refine DW.exit ?_
  refine joinQ_exit ?_
  refine KQ_exit ?_
  refine blockQ_exit ?_
  show DW _ _ _ _ _
  refine Sq (RK hnt (.no :: []) [(4, pI (-1))] [(0, bx [pI p1c0])] tv ?_)
  obtain rfl := sj hm
  exact DW.ret (retK [.box [pI p1c0]] [] (pI (-1)))

theorem At_forestSpec (p0 : Tree) (p1 : Int) (RES : Int) (hm : At_forest p0 p1 = some RES) : Spec Tryz.prog 101 [.p (.agg (encTree p0)), pI p1] [] (pI RES) [] [] := by
 unfold At_forest at hm
 refine SO Tryz.func101 rfl rfl [(0, .p (.agg (encTree p0))), (1, pI p1)] [] ?_
 intro cx hnt
 refine Sq (RK hnt (nn 3 []) [(2, rr 1016), (3, rr 1024)] [(1016, bx (pm (encTree p0))), (1024, bx [pI p1])] tv ?_)
 obtain ⟨r1, hr1, hm⟩ := bo hm
 refine Sq (RK hnt (nn 3 (.call 149 [1024] true (pI r1) [.box [pI p1]] [] :: .no :: [])) [(4, pI r1)] [] (an (IndexFunc_slices_NodeQAtFa_forestSpec p0.nodes p1 r1 hr1) (an tv tv)) ?_)
 obtain rfl := sj hm
 exact DW.ret (retK [] [] (pI r1))
abbrev o18 (ks : List Nat) (b : Bool) (RES : Int) : Orc := .call 101 ks b (pI RES) [] []

theorem fine_memberSpec (p0 : Hierarchy) (p1 : Task) (RES : Bool) (hm : fine_member p0 p1 = some RES) : Spec Tryz.prog 109 [.p (.agg (encHierarchy p0)), .p (.agg (encTask p1))] [] (pB RES) [] [] := by
 unfold fine_member at hm
 refine SO Tryz.func109 rfl rfl [(0, .p (.agg (encHierarchy p0))), (1, .p (.agg (encTask p1)))] [] ?_
 intro cx hnt
 refine Sq (RK hnt (nn 3 []) [(2, rr 1016), (3, rr 1024)] [(1016, bx (pm (encHierarchy p0))), (1024, bx (pm (encTask p1)))] tv ?_)
 obtain ⟨r1, hr1, hm⟩ := bo hm
 refine Sq (RD hnt (nn 3 (o14 [] true r1 :: nn 6 [])) [] [(5, rr 1040), (6, pB r1.2)] [] [(1040, bx (pm (encTask r1.1)))] (an (Find_crewSpec p0 p1.process r1 hr1) tv) ?_)
 refine Sq ?_
 refine Jn (ι := Bool) (fun (y1 : Bool) => mkSt [(4, pB y1)] []) (fun y1 => fine_memberJ1 y1 = some RES) ?_ ?_
 ·intro y1 hm
  unfold fine_memberJ1 at hm
  obtain rfl := sj hm
  exact DW.ret (retK [] [] (pB y1))
 ·rcases bt (decide (p1.user ≥ 0)) with h2 | h2
  ·replace hm := if_t h2 hm
   rcases bt (decide (p1.user ≤ 1048576)) with h3 | h3
   ·replace hm := if_t h3 hm
    rcases bt r1.2 with h4 | h4
    ·replace hm := if_t h4 hm
     rcases bt (r1.1.process == r1.1.id) with h5 | h5
     ·replace hm := if_t h5 hm
      rcases bt (r1.1.user == p1.user) with h6 | h6
      ·replace hm := if_t h6 hm
       obtain ⟨r7, hr7, hm⟩ := bo hm
       refine RK hnt (nn 7 (pT :: nn 2 (pT :: nn 6 (pT :: nn 6 (pT :: nn 5 (o18 [] true r7 :: .no :: pT :: .no :: [])))))) [(4, pB (decide (r7 ≥ 0)))] [] (an4 h2 (an2 h3 (an6 h4 (an6 h5 (an5 h6 (an (At_forestSpec p0.tree p1.group r7 hr7) (an2 h6 tv))))))) ?_
       exact jD (decide (r7 ≥ 0)) hm .refl
      ·replace hm := if_f h6 hm
       refine RK hnt (nn 7 (pT :: nn 2 (pT :: nn 6 (pT :: nn 6 (pT :: .no :: sk 6 (pF :: .no :: [])))))) [(4, pB false)] [] (an4 h2 (an2 h3 (an6 h4 (an6 h5 (an h6 (an6 h6 tv)))))) ?_
       exact jD false hm .refl
     ·replace hm := if_f h5 hm
      refine RK hnt (nn 7 (pT :: nn 2 (pT :: nn 6 (pT :: .no :: sk 5 (pF :: .no :: sk 6 (pF :: .no :: [])))))) [(4, pB false)] [] (an4 h2 (an2 h3 (an6 h4 (an6 h5 (an ff (an6 ff tv)))))) ?_
      exact jD false hm .refl
    ·replace hm := if_f h4 hm
     refine RK hnt (nn 7 (pT :: nn 2 (pT :: .no :: sk 5 (pF :: .no :: sk 5 (pF :: .no :: sk 6 (pF :: .no :: [])))))) [(4, pB false)] [] (an4 h2 (an2 h3 (an6 h4 (an ff (an6 ff (an6 ff tv)))))) ?_
     exact jD false hm .refl
   ·replace hm := if_f h3 hm
    refine RK hnt (nn 7 (pT :: .no :: .skip :: pF :: .no :: sk 5 (pF :: .no :: sk 5 (pF :: .no :: sk 6 (pF :: .no :: []))))) [(4, pB false)] [] (an4 h2 (an2 h3 (an ff (an6 ff (an6 ff (an6 ff tv)))))) ?_
    exact jD false hm .refl
  ·replace hm := if_f h2 hm
   refine RK hnt (nn 4 (sk 3 (pF :: .no :: .skip :: pF :: .no :: sk 5 (pF :: .no :: sk 5 (pF :: .no :: sk 6 (pF :: .no :: [])))))) [(4, pB false)] [] (an4 h2 (an3 ff (an6 ff (an6 ff (an6 ff tv))))) ?_
   exact jD false hm .refl
abbrev o13 (ks : List Nat) (b : Bool) (RES : Bool) : Orc := .call 109 ks b (pB RES) [] []

abbrev c7e1 (p0 : Hierarchy) (k1 : Nat) := (p0.tasks.getD k1 (default : Task))
theorem Check_memberSpec (p0 : Hierarchy) (RES : Bool) (hm : Check_member p0 = some RES) : Spec Tryz.prog 51 [.p (.agg (encHierarchy p0))] [] (pB RES) [] [] := by
 unfold Check_member at hm
 refine SO Tryz.func51 rfl rfl [(0, .p (.agg (encHierarchy p0)))] [] ?_
 intro cx hnt
 refine Sq (RK hnt (nn 2 []) [(1, rr 1008)] [(1008, bx (pm (encHierarchy p0)))] tv ?_)
 refine Sq (Sq ?_)
 refine Jn (ι := Bool) (fun (y1 : Bool) => mkSt [(1, rr 1008), (20, pB y1)] [(1008, bx (pm (encHierarchy p0)))]) (fun y1 => (Check_memberJ1 p0) y1 = some RES) ?_ ?_
 ·intro y1 hm
  unfold Check_memberJ1 at hm
  refine condM hm ?_ ?_
  ·intro h4 hm
   refine Sq (RK hnt (.no :: []) [(2, pB false)] [] tv ?_)
   obtain rfl := sj hm
   exact DW.ret (retK [] [] (pB false))
  ·intro h4 hm
   refine Sk ?_
   refine Sq (RD hnt (.no :: []) [20] [(3, pI 0)] [] [] tv ?_)
   refine Sq (Sq (RD hnt (nn 4 []) [] [(22, .p (slTask p0.tasks)), (23, pI ((p0.tasks.length : Nat) : Int)), (24, pI 0)] [] [] tv ?_))
   refine Bk ?_
   obtain ⟨hc1, hm⟩ := go1 hm
   refine DW.rangeO (fun (k1 : Nat) (s1 : Int) => mkSt [(1, rr 1008), (3, pI s1), (22, .p (slTask p0.tasks)), (23, pI ((p0.tasks.length : Nat) : Int)), (24, pI ((k1 : Nat) : Int))] [(1008, bx (pm (encHierarchy p0)))]) dTask hm Conv.eqK ?_
   intro k1 s1 n1 hk1 hs1 he1
   refine Sq (RD hnt (.no :: []) [] [(25, pB (decide (((k1 : Nat) : Int) < ((p0.tasks.length : Nat) : Int))))] [] [] tv ?_)
   refine Sq (condK (decide (((k1 : Nat) : Int) < ((p0.tasks.length : Nat) : Int))) ?_ ?_)
   ·intro h15
    have hlt1 : k1 < p0.tasks.length := by have := of_decide_eq_true h15; omega
    have hm := hs1 hlt1
    unfold Check_memberL1 at hm
    refine Sk ?_
    refine Sq (Bk ?_)
    refine Sq (RD hnt (nn 4 []) [25] [(5, rr 1040)] [] [(1040, bx (pm (encTask (c7e1 p0 k1))))] (an (nn0 k1) (an (ltc hlt1) tv)) ?_)
    refine Sq (Sq ?_)
    refine Jn (ι := Bool) (fun (y4 : Bool) => mkSt [(1, rr 1008), (5, rr 1040), (22, .p (slTask p0.tasks)), (23, pI ((p0.tasks.length : Nat) : Int)), (24, pI ((k1 : Nat) : Int)), (37, pB y4)] [(1008, bx (pm (encHierarchy p0))), (1040, bx (pm (encTask (c7e1 p0 k1))))]) (fun y4 => (Check_memberJ4 (c7e1 p0 k1) n1) y4 = some RES) ?_ ?_
    ·intro y4 hm
     unfold Check_memberJ4 at hm
     refine condM hm ?_ ?_
     ·intro h18 hm
      refine Sq (RK hnt (.no :: []) [(2, pB false)] [] tv ?_)
      obtain rfl := sj hm
      exact DW.ret (retK [] [] (pB false))
     ·intro h18 hm
      refine Sk ?_
      refine RD hnt (nn 3 []) [5, 37] [(3, pI (c7e1 p0 k1).id)] [1040] [] tv ?_
      refine DW.done ?_
      show DW _ _ _ _ _
      refine RD hnt (nn 2 []) [] [(24, pI (w64 (((k1 : Nat) : Int) + 1)))] [] [] tv ?_
      exact jD (c7e1 p0 k1).id ⟨hlt1, hm⟩ (Conv.tp [(24, pI (w64 (((k1 : Nat) : Int) + 1)))] [] (by kernel_rfl) (.cons rfl (.of_eq (congrArg pI (w64_succ hlt1 hc1))) .nil) .nil)
    ·rcases bt (decide ((c7e1 p0 k1).id ≤ s1)) with h16 | h16
     ·replace hm := if_t h16 hm
      refine RD hnt (nn 5 (sk 4 (pT :: []))) [3] [(37, pB true)] [] [] (an5 h16 tv) ?_
      exact jD true hm Conv.eqK
     ·replace hm := if_f h16 hm
      obtain ⟨r17, hr17, hm⟩ := bo hm
      refine RD hnt (nn 7 (o13 [] true r17 :: .no :: pF :: [])) [3] [(37, pB (!r17))] [] [] (an3 h16 (an (fine_memberSpec p0 (c7e1 p0 k1) r17 hr17) (an2 h16 tv))) ?_
      exact jD (!r17) hm Conv.eqK
   ·intro h15
    have hge1 : ¬ k1 < p0.tasks.length := by have := of_decide_eq_false h15; omega
    have hm := he1 hge1
    unfold Check_memberD1 at hm
    refine DW.exit ?_
    refine joinQ_exit ?_
    refine KQ_exit ?_
    refine blockQ_exit ?_
    show DW _ _ _ _ _
    refine Sq (RK hnt (nn 5 []) [(2, pB (decide (p0.next > s1)))] [] tv ?_)
    obtain rfl := sj hm
    exact DW.ret (retK [] [] (pB (decide (p0.next > s1))))
 ·rcases bt (decide (((p0.tasks.length : Nat) : Int) > 128)) with h1 | h1
  ·replace hm := if_t h1 hm
   refine RD hnt (nn 5 (sk 3 (pT :: .no :: sk 4 (pT :: [])))) [] [(20, pB true)] [] [] (an4 h1 (an5 tt tv)) ?_
   exact jD true hm Conv.eqK
  ·replace hm := if_f h1 hm
   rcases bt (decide (p0.next > 2147483648)) with h2 | h2
   ·replace hm := if_t h2 hm
    refine RD hnt (nn 8 (pF :: .no :: sk 4 (pT :: []))) [] [(20, pB true)] [] [] (an4 h1 (an5 h2 tv)) ?_
    exact jD true hm Conv.eqK
   ·replace hm := if_f h2 hm
    obtain ⟨r3, hr3, hm⟩ := bo hm
    refine RD hnt (nn 8 (pF :: nn 3 (o8 [] true r3 :: .no :: pF :: []))) [] [(20, pB (!r3))] [] [] (an4 h1 (an3 h2 (an (Check_treeSpec p0.tree r3 hr3) (an2 h2 tv)))) ?_
    exact jD (!r3) hm Conv.eqK
abbrev o7 (ks : List Nat) (b : Bool) (RES : Bool) : Orc := .call 51 ks b (pB RES) [] []

theorem Clone_slices_NodeNnSpec (p0 : List Node) (RES : List Node) (hm : Clone_slices_Node p0 = some RES) : Spec Tryz.prog 145 [.p (.sl .nn 6 p0.length (elems encNode (default : Node) p0))] [] (ow 0 RES.length) [] [roNode RES] := by
 unfold Clone_slices_Node at hm
 refine SO Tryz.func145 rfl rfl [(0, .p (.sl .nn 6 p0.length (elems encNode (default : Node) p0)))] [] ?_
 intro cx hnt
 refine Sq (RD hnt (.no :: []) [] [] [] [] tv ?_)
 refine Sq (Sq (RD hnt (nn 2 []) [] [(4, pB false)] [] [] tv ?_))
 refine condF ff ?_
 refine Sk ?_
 obtain ⟨g1, hm⟩ := go1 hm
 refine Sq (RN hnt (nn 4 []) [(2, ow 1040 p0.length)] [(1040, ob0 (roNode p0))] [(2, ow 1040 (0 + p0.length))] [(1040, .row 6 (0 + p0.length) (catF 0 (cut 6 []) (elNode p0)))] (an (by omega : (0 + p0.length) * 56 ≤ 140737488355328) tv) (by kernel_rfl) (.cons rfl (MLe.ownLen (enc := encNode) (d := dNode) (f := (catF 0 (cut 6 []) (elNode p0))) (RowIs.cat RowIs.nil RowIs.elems)) .nil) (.cons rfl (BLe.typed (RowIs.cat RowIs.nil RowIs.elems)) .nil) ?_)
 obtain rfl := sj hm
 exact DW.ret (retK [roNode p0] [1040] (ow 0 p0.length))

theorem Clone_slices_NodeNilSpec (p0 : List Node) (RES : List Node) (hm : Clone_slices_NodeNil p0 = some RES) : Spec Tryz.prog 145 [.p (.sl .nil 6 0 (elems encNode (default : Node) p0))] [] (ow 0 RES.length) [] [roNode RES] := by
 unfold Clone_slices_NodeNil at hm
 refine SO Tryz.func145 rfl rfl [(0, .p (.sl .nil 6 0 (elems encNode (default : Node) p0)))] [] ?_
 intro cx hnt
 refine Sq (RD hnt (.no :: []) [] [] [] [] tv ?_)
 refine Sq (Sq (RD hnt (nn 2 []) [] [(4, pB true)] [] [] tv ?_))
 refine condT tt ?_
 refine Sq (RK hnt (.no :: []) [(2, .p (.sl .nil 0 0 (fun _ => [])))] [] tv ?_)
 refine DW.cv [] [(2, ow 100000 0)] [] [(100000, ob0 (roNode []))] (Conv.ads [(.s 2, 100000, 6, elems encNode dNode [])]) ?_
 obtain rfl := sj hm
 exact DW.ret (retK [roNode []] [100000] (ow 0 0))

theorem Clone_slices_NodeSpec (p0 : List Node) (RES : List Node) (hm : Clone_slices_Node p0 = some RES) : Spec Tryz.prog 145 [.p (slNode p0)] [] (ow 0 RES.length) [] [roNode RES] :=
  Spec.unk (fun h => Clone_slices_NodeNilSpec p0 RES (by have e : p0 = [] := List.eq_nil_of_length_eq_zero h; subst e; simpa [Clone_slices_Node, Clone_slices_NodeNil] using hm)) (Clone_slices_NodeNnSpec p0 RES hm)
abbrev o23 (ks : List Nat) (b : Bool) (RES : List Node) : Orc := .call 145 ks b (ow 0 RES.length) [] [roNode RES]

theorem Clone_slices_TaskNnSpec (p0 : List Task) (RES : List Task) (hm : Clone_slices_Task p0 = some RES) : Spec Tryz.prog 146 [.p (.sl .nn 4 p0.length (elems encTask (default : Task) p0))] [] (ow 0 RES.length) [] [roTask RES] := by
 unfold Clone_slices_Task at hm
 refine SO Tryz.func146 rfl rfl [(0, .p (.sl .nn 4 p0.length (elems encTask (default : Task) p0)))] [] ?_
 intro cx hnt
 refine Sq (RD hnt (.no :: []) [] [] [] [] tv ?_)
 refine Sq (Sq (RD hnt (nn 2 []) [] [(4, pB false)] [] [] tv ?_))
 refine condF ff ?_
 refine Sk ?_
 obtain ⟨g1, hm⟩ := go1 hm
 refine Sq (RN hnt (nn 4 []) [(2, ow 1040 p0.length)] [(1040, ob0 (roTask p0))] [(2, ow 1040 (0 + p0.length))] [(1040, .row 4 (0 + p0.length) (catF 0 (cut 4 []) (elTask p0)))] (an (by omega : (0 + p0.length) * 32 ≤ 140737488355328) tv) (by kernel_rfl) (.cons rfl (MLe.ownLen (enc := encTask) (d := dTask) (f := (catF 0 (cut 4 []) (elTask p0))) (RowIs.cat RowIs.nil RowIs.elems)) .nil) (.cons rfl (BLe.typed (RowIs.cat RowIs.nil RowIs.elems)) .nil) ?_)
 obtain rfl := sj hm
 exact DW.ret (retK [roTask p0] [1040] (ow 0 p0.length))

theorem Clone_slices_TaskNilSpec (p0 : List Task) (RES : List Task) (hm : Clone_slices_TaskNil p0 = some RES) : Spec Tryz.prog 146 [.p (.sl .nil 4 0 (elems encTask (default : Task) p0))] [] (ow 0 RES.length) [] [roTask RES] := by
 unfold Clone_slices_TaskNil at hm
 refine SO Tryz.func146 rfl rfl [(0, .p (.sl .nil 4 0 (elems encTask (default : Task) p0)))] [] ?_
 intro cx hnt
 refine Sq (RD hnt (.no :: []) [] [] [] [] tv ?_)
 refine Sq (Sq (RD hnt (nn 2 []) [] [(4, pB true)] [] [] tv ?_))
 refine condT tt ?_
 refine Sq (RK hnt (.no :: []) [(2, .p (.sl .nil 0 0 (fun _ => [])))] [] tv ?_)
 refine DW.cv [] [(2, ow 100000 0)] [] [(100000, ob0 (roTask []))] (Conv.ads [(.s 2, 100000, 4, elems encTask dTask [])]) ?_
 obtain rfl := sj hm
 exact DW.ret (retK [roTask []] [100000] (ow 0 0))

theorem Clone_slices_TaskSpec (p0 : List Task) (RES : List Task) (hm : Clone_slices_Task p0 = some RES) : Spec Tryz.prog 146 [.p (slTask p0)] [] (ow 0 RES.length) [] [roTask RES] :=
  Spec.unk (fun h => Clone_slices_TaskNilSpec p0 RES (by have e : p0 = [] := List.eq_nil_of_length_eq_zero h; subst e; simpa [Clone_slices_Task, Clone_slices_TaskNil] using hm)) (Clone_slices_TaskNnSpec p0 RES hm)
abbrev o24 (ks : List Nat) (b : Bool) (RES : List Task) : Orc := .call 146 ks b (ow 0 RES.length) [] [roTask RES]

theorem Copy_crewSpec (p0 : Hierarchy) (RES : Hierarchy) (hm : Copy_crew p0 = some RES) : Spec Tryz.prog 96 [.p (.agg (encHierarchy p0))] [] (.agg [ow 0 RES.tree.nodes.length, pI RES.tree.next, ow 1 RES.tasks.length, pI RES.next]) [] [roNode RES.tree.nodes, roTask RES.tasks] := by
 unfold Copy_crew at hm
 refine SO Tryz.func96 rfl rfl [(0, .p (.agg (encHierarchy p0)))] [] ?_
 intro cx hnt
 refine Sq (RK hnt (nn 2 []) [(1, rr 1008), (2, rr 1016)] [(1008, bx (pm (encHierarchy p0))), (1016, bx [.p (.sl .nil 0 0 (fun _ => [])), pI 0, .p (.sl .nil 0 0 (fun _ => [])), pI 0])] tv ?_)
 obtain ⟨r1, hr1, hm⟩ := bo hm
 obtain ⟨r2, hr2, hm⟩ := bo hm
 refine Sq (RK hnt (nn 3 (o23 [] true r1 :: nn 6 (o24 [] true r2 :: nn 4 []))) [(2, rr 1016)] [(1016, bx [ow 1048 r1.length, pI p0.tree.next, ow 1104 r2.length, pI p0.next]), (1048, ob0 (roNode r1)), (1104, ob0 (roTask r2))] (an (Clone_slices_NodeSpec p0.tree.nodes r1 hr1) (an (Clone_slices_TaskSpec p0.tasks r2 hr2) tv)) ?_)
 obtain rfl := sj hm
 exact DW.ret (retK [roNode r1, roTask r2] [1048, 1104] (.agg [ow 0 r1.length, pI p0.tree.next, ow 1 r2.length, pI p0.next]))
abbrev o22 (ks : List Nat) (b : Bool) (RES : Hierarchy) : Orc := .call 96 ks b (.agg [ow 0 RES.tree.nodes.length, pI RES.tree.next, ow 1 RES.tasks.length, pI RES.next]) [] [roNode RES.tree.nodes, roTask RES.tasks]

abbrev c21e1 : Nat × Obj := (1032, bx [.p (.sl .nil 0 0 (fun _ => [])), pI 0, .p (.sl .nil 0 0 (fun _ => [])), pI 0])
abbrev c21e2 (r3 : Hierarchy) : Nat × Obj := (1056, bx [ow 1152 r3.tree.nodes.length, pI r3.tree.next, ow 1153 r3.tasks.length, pI r3.next])
theorem add_memberSpec (p0 : Hierarchy) (p1 : Task) (RES : Hierarchy × Int × Int) (hm : add_member p0 p1 = some RES) : Spec Tryz.prog 102 [.p (.agg (encHierarchy p0)), .p (.agg (encTask p1))] [] (.tup [.agg [ow 0 RES.1.tree.nodes.length, pI RES.1.tree.next, ow 1 RES.1.tasks.length, pI RES.1.next], pI RES.2.1, pI RES.2.2]) [] [roNode RES.1.tree.nodes, roTask RES.1.tasks] := by
 unfold add_member at hm
 refine SO Tryz.func102 rfl rfl [(0, .p (.agg (encHierarchy p0))), (1, .p (.agg (encTask p1)))] [] ?_
 intro cx hnt
 refine Sq (RK hnt (nn 5 []) [(2, rr 1016), (3, rr 1024), (4, rr 1032)] [(1016, bx (pm (encHierarchy p0))), (1024, bx (pm (encTask p1))), (c21e1)] tv ?_)
 refine Sq (Sq (DW.regJ (sl2 := [(2, rr 1016), (3, rr 1024), (4, rr 1032), (16, pB ((decide (((p0.tasks.length : Nat) : Int) ≥ 128)) || (decide (p0.next > 2147483647))))]) (ob2 := [(1016, bx (pm (encHierarchy p0))), (1024, bx (pm (encTask p1))), (c21e1)]) ?_ ?_))
 ·rcases bt (decide (((p0.tasks.length : Nat) : Int) ≥ 128)) with h1 | h1
  ·exact RT hnt (nn 5 (sk 3 (pT :: []))) [(16, pB true)] (an4 h1 tv) (by kernel_rfl) (.cons rfl (.of_eq (by rw [h1]; try rfl)) .nil)
  ·exact RT hnt (nn 8 (pF :: [])) [(16, pB (decide (p0.next > 2147483647)))] (an4 h1 tv) (by kernel_rfl) (.cons rfl (.of_eq (by rw [h1]; try rfl)) .nil)
 ·refine condM hm ?_ ?_
  ·intro h2 hm
   refine Sq (RD hnt (nn 4 []) [2, 3, 16] [(5, pI 0), (6, pI 7)] [1016, 1024] [] tv ?_)
   refine DW.cv [] [] [] [(1032, bx [ow 100000 0, pI 0, ow 100001 0, pI 0]), (100000, ob0 (roNode [])), (100001, ob0 (roTask []))] (Conv.ads [(.o 1032 0, 100000, 6, elems encNode dNode []), (.o 1032 2, 100001, 4, elems encTask dTask [])]) ?_
   obtain rfl := sj hm
   exact DW.ret (retK [roNode [], roTask []] [100000, 100001] (.tup [.agg [ow 0 0, pI 0, ow 1 0, pI 0], pI 0, pI 7]))
  ·intro h2 hm
   refine Sk ?_
   obtain ⟨r3, hr3, hm⟩ := bo hm
   refine Sq (RD hnt (.no :: o22 [] true r3 :: nn 2 []) [16] [(7, rr 1056)] [] [(c21e2 r3), (1152, ob0 (roNode r3.tree.nodes)), (1153, ob0 (roTask r3.tasks))] (an (Copy_crewSpec p0 r3 hr3) tv) ?_)
   refine Sq (RD hnt (nn 4 []) [2] [] [1016] [(1024, bx [pI p0.next, pI p1.process, pI p1.group, pI p1.user])] tv ?_)
   refine Sq (Sq (RD hnt (nn 3 []) [] [(25, pB (p1.process == 0))] [] [] tv ?_))
   refine Jn (ι := Task) (fun (y1 : Task) => mkSt [(3, rr 1024), (4, rr 1032), (7, rr 1056)] [(1024, bx (pm (encTask y1))), (c21e1), (c21e2 r3), (1152, ob0 (roNode r3.tree.nodes)), (1153, ob0 (roTask r3.tasks))]) (fun y1 => (add_memberJ1 r3) y1 = some RES) ?_ ?_
   ·intro y1 hm
    unfold add_memberJ1 at hm
    obtain ⟨g5, hm⟩ := go1 hm
    refine Sq (RN hnt (nn 7 []) [(3, rr 1024), (4, rr 1032), (7, rr 1056)] [(1024, bx (pm (encTask y1))), (c21e1), (1056, bx [ow 1152 r3.tree.nodes.length, pI r3.tree.next, ow 1153 (r3.tasks ++ [y1]).length, pI r3.next]), (1152, ob0 (roNode r3.tree.nodes)), (1153, ob0 (roTask (r3.tasks ++ [y1])))] [] [(1056, .box [ow 1152 r3.tree.nodes.length, pI r3.tree.next, ow 1153 (r3.tasks.length + 1), pI r3.next]), (1153, .row 4 (r3.tasks.length + 1) (catF r3.tasks.length (elTask r3.tasks) (cut 4 [vi y1.id, vi y1.process, vi y1.group, vi y1.user])))] (an (by omega : (r3.tasks.length + 1) * 32 ≤ 140737488355328) tv) (by kernel_rfl) .nil (.cons rfl (.box (.cons .rfl (.cons .rfl (.cons (MLe.ownLen (enc := encTask) (d := dTask) (f := (catF r3.tasks.length (elTask r3.tasks) (cut 4 [vi y1.id, vi y1.process, vi y1.group, vi y1.user]))) (RowIs.cat RowIs.elems (RowIs.lit (enc := encTask) (d := dTask) (n := 1) (f := (cut 4 [vi y1.id, vi y1.process, vi y1.group, vi y1.user])) [y1] rfl (fun | 0, _ => rfl | n + 1, h => absurd h (by omega))))) (.cons .rfl .nil))))) (.cons rfl (BLe.typed (RowIs.cat RowIs.elems (RowIs.lit (enc := encTask) (d := dTask) (n := 1) (f := (cut 4 [vi y1.id, vi y1.process, vi y1.group, vi y1.user])) [y1] rfl (fun | 0, _ => rfl | n + 1, h => absurd h (by omega))))) .nil)) ?_)
    refine Sq (RD hnt (nn 5 []) [] [] [] [(1056, bx [ow 1152 r3.tree.nodes.length, pI r3.tree.next, ow 1153 (r3.tasks ++ [y1]).length, pI (w64 (r3.next + 1))])] tv ?_)
    refine Sq (RD hnt (nn 6 []) [3, 7] [(5, pI y1.id), (6, pI 0)] [1024, 1056] [(1032, bx [ow 1152 r3.tree.nodes.length, pI r3.tree.next, ow 1153 (r3.tasks ++ [y1]).length, pI (w64 (r3.next + 1))])] tv ?_)
    obtain rfl := sj hm
    exact DW.ret (retK [roNode r3.tree.nodes, roTask (r3.tasks ++ [y1])] [1152, 1153] (.tup [.agg [ow 0 r3.tree.nodes.length, pI r3.tree.next, ow 1 (r3.tasks ++ [y1]).length, pI (w64 (r3.next + 1))], pI y1.id, pI 0]))
   ·refine condM hm ?_ ?_
    ·intro h4 hm
     refine RD hnt (nn 4 []) [25] [] [] [(1024, bx [pI p0.next, pI p0.next, pI p1.group, pI p1.user])] tv ?_
     exact jD ({ id := p0.next, process := p0.next, group := p1.group, user := p1.user } : Task) hm Conv.eqK
    ·intro h4 hm
     refine Sk ?_
     exact jD ({ id := p0.next, process := p1.process, group := p1.group, user := p1.user } : Task) hm Conv.t0
abbrev o21 (ks : List Nat) (b : Bool) (RES : Hierarchy × Int × Int) : Orc := .call 102 ks b (.tup [.agg [ow 0 RES.1.tree.nodes.length, pI RES.1.tree.next, ow 1 RES.1.tasks.length, pI RES.1.next], pI RES.2.1, pI RES.2.2]) [] [roNode RES.1.tree.nodes, roTask RES.1.tasks]

abbrev c6e1 : Nat × Obj := (1048, bx [.p (.sl .nil 0 0 (fun _ => [])), pI 0, .p (.sl .nil 0 0 (fun _ => [])), pI 0])
theorem Spawn_memberSpec (p0 : Hierarchy) (p1 : Int) (p2 : Int) (RES : Hierarchy × Int × Int) (hm : Spawn_member p0 p1 p2 = some RES) : Spec Tryz.prog 45 [.p (.agg (encHierarchy p0)), pI p1, pI p2] [] (.tup [.agg [ow 0 RES.1.tree.nodes.length, pI RES.1.tree.next, ow 1 RES.1.tasks.length, pI RES.1.next], pI RES.2.1, pI RES.2.2]) [] [roNode RES.1.tree.nodes, roTask RES.1.tasks] := by
 unfold Spawn_member at hm
 refine SO Tryz.func45 rfl rfl [(0, .p (.agg (encHierarchy p0))), (1, pI p1), (2, pI p2)] [] ?_
 intro cx hnt
 refine Sq (RD hnt (nn 4 []) [0] [(3, rr 1024), (6, rr 1048)] [] [(1024, bx (pm (encHierarchy p0))), (c6e1)] tv ?_)
 obtain ⟨r1, hr1, hm⟩ := bo hm
 refine Sq (Sq ?_)
 refine Jn (ι := Bool) (fun (y1 : Bool) => mkSt [(1, pI p1), (2, pI p2), (3, rr 1024), (6, rr 1048), (19, pB y1)] [(1024, bx (pm (encHierarchy p0))), (c6e1)]) (fun y1 => (Spawn_memberJ1 p0 p1 p2) y1 = some RES) ?_ ?_
 ·intro y1 hm
  unfold Spawn_memberJ1 at hm
  refine condM hm ?_ ?_
  ·intro h4 hm
   refine Sq (RD hnt (nn 4 []) [1, 2, 3, 19] [(7, pI 0), (8, pI 1)] [1024] [] tv ?_)
   refine DW.cv [] [] [] [(1048, bx [ow 100000 0, pI 0, ow 100001 0, pI 0]), (100000, ob0 (roNode [])), (100001, ob0 (roTask []))] (Conv.ads [(.o 1048 0, 100000, 6, elems encNode dNode []), (.o 1048 2, 100001, 4, elems encTask dTask [])]) ?_
   obtain rfl := sj hm
   exact DW.ret (retK [roNode [], roTask []] [100000, 100001] (.tup [.agg [ow 0 0, pI 0, ow 1 0, pI 0], pI 0, pI 1]))
  ·intro h4 hm
   refine Sk ?_
   obtain ⟨r5, hr5, hm⟩ := bo hm
   refine Sq (Sq (RD hnt (nn 3 (o18 [] true r5 :: .no :: [])) [19] [(25, pB (decide (r5 < 0)))] [] [] (an (At_forestSpec p0.tree p1 r5 hr5) tv) ?_))
   refine condM hm ?_ ?_
   ·intro h6 hm
    refine Sq (RD hnt (nn 4 []) [1, 2, 3, 25] [(7, pI 0), (8, pI 4)] [1024] [] tv ?_)
    refine DW.cv [] [] [] [(1048, bx [ow 100000 0, pI 0, ow 100001 0, pI 0]), (100000, ob0 (roNode [])), (100001, ob0 (roTask []))] (Conv.ads [(.o 1048 0, 100000, 6, elems encNode dNode []), (.o 1048 2, 100001, 4, elems encTask dTask [])]) ?_
    obtain rfl := sj hm
    exact DW.ret (retK [roNode [], roTask []] [100000, 100001] (.tup [.agg [ow 0 0, pI 0, ow 1 0, pI 0], pI 0, pI 4]))
   ·intro h6 hm
    refine Sk ?_
    obtain ⟨r7, hr7, hm⟩ := bo hm
    refine Sq (RK hnt (nn 4 (o21 [] true r7 :: nn 6 [])) [(6, rr 1048), (7, pI r7.2.1), (8, pI r7.2.2)] [(1048, bx [ow 1248 r7.1.tree.nodes.length, pI r7.1.tree.next, ow 1249 r7.1.tasks.length, pI r7.1.next]), (1248, ob0 (roNode r7.1.tree.nodes)), (1249, ob0 (roTask r7.1.tasks))] (an (add_memberSpec p0 ({ id := 0, process := 0, group := p1, user := p2 } : Task) r7 hr7) tv) ?_)
    obtain rfl := sj hm
    exact DW.ret (retK [roNode r7.1.tree.nodes, roTask r7.1.tasks] [1248, 1249] (.tup [.agg [ow 0 r7.1.tree.nodes.length, pI r7.1.tree.next, ow 1 r7.1.tasks.length, pI r7.1.next], pI r7.2.1, pI r7.2.2]))
 ·rcases bt (!r1) with h2 | h2
  ·replace hm := if_t h2 hm
   refine RD hnt (.no :: o7 [] true r1 :: nn 2 (sk 2 (pT :: .no :: sk 2 (pT :: [])))) [] [(19, pB true)] [] [] (an (Check_memberSpec p0 r1 hr1) (an3 h2 (an3 tt tv))) ?_
   exact jD true hm Conv.eqK
  ·replace hm := if_f h2 hm
   rcases bt (decide (p2 < 0)) with h3 | h3
   ·replace hm := if_t h3 hm
    refine RD hnt (.no :: o7 [] true r1 :: nn 4 (pF :: .no :: sk 2 (pT :: []))) [] [(19, pB true)] [] [] (an (Check_memberSpec p0 r1 hr1) (an3 h2 (an3 h3 tv))) ?_
    exact jD true hm Conv.eqK
   ·replace hm := if_f h3 hm
    refine RD hnt (.no :: o7 [] true r1 :: nn 4 (pF :: nn 3 (pF :: []))) [] [(19, pB (decide (p2 > 1048576)))] [] [] (an (Check_memberSpec p0 r1 hr1) (an3 h2 (an3 h3 tv))) ?_
    exact jD (decide (p2 > 1048576)) hm Conv.eqK
abbrev o6 (ks : List Nat) (b : Bool) (RES : Hierarchy × Int × Int) : Orc := .call 45 ks b (.tup [.agg [ow 0 RES.1.tree.nodes.length, pI RES.1.tree.next, ow 1 RES.1.tasks.length, pI RES.1.next], pI RES.2.1, pI RES.2.2]) [] [roNode RES.1.tree.nodes, roTask RES.1.tasks]

theorem Clone_memberSpec (p0 : Hierarchy) (p1 : Int) (RES : Hierarchy × Int × Int) (hm : Clone_member p0 p1 = some RES) : Spec Tryz.prog 49 [.p (.agg (encHierarchy p0)), pI p1] [] (.tup [.agg [ow 0 RES.1.tree.nodes.length, pI RES.1.tree.next, ow 1 RES.1.tasks.length, pI RES.1.next], pI RES.2.1, pI RES.2.2]) [] [roNode RES.1.tree.nodes, roTask RES.1.tasks] := by
 unfold Clone_member at hm
 refine SO Tryz.func49 rfl rfl [(0, .p (.agg (encHierarchy p0))), (1, pI p1)] [] ?_
 intro cx hnt
 refine Sq (RK hnt (nn 4 []) [(1, pI p1), (2, rr 1016), (4, rr 1032)] [(1016, bx (pm (encHierarchy p0))), (1032, bx [.p (.sl .nil 0 0 (fun _ => [])), pI 0, .p (.sl .nil 0 0 (fun _ => [])), pI 0])] tv ?_)
 obtain ⟨r1, hr1, hm⟩ := bo hm
 refine Sq (Sq (RD hnt (.no :: o7 [] true r1 :: .no :: []) [] [(11, pB (!r1))] [] [] (an (Check_memberSpec p0 r1 hr1) tv) ?_))
 refine condM hm ?_ ?_
 ·intro h2 hm
  refine Sq (RD hnt (nn 4 []) [1, 2, 11] [(5, pI 0), (6, pI 1)] [1016] [] tv ?_)
  refine DW.cv [] [] [] [(1032, bx [ow 100000 0, pI 0, ow 100001 0, pI 0]), (100000, ob0 (roNode [])), (100001, ob0 (roTask []))] (Conv.ads [(.o 1032 0, 100000, 6, elems encNode dNode []), (.o 1032 2, 100001, 4, elems encTask dTask [])]) ?_
  obtain rfl := sj hm
  exact DW.ret (retK [roNode [], roTask []] [100000, 100001] (.tup [.agg [ow 0 0, pI 0, ow 1 0, pI 0], pI 0, pI 1]))
 ·intro h2 hm
  refine Sk ?_
  obtain ⟨r3, hr3, hm⟩ := bo hm
  refine Sq (RD hnt (nn 2 (o14 [] true r3 :: nn 6 [])) [1, 11] [(7, rr 1056), (8, pB r3.2)] [] [(1056, bx (pm (encTask r3.1)))] (an (Find_crewSpec p0 p1 r3 hr3) tv) ?_)
  refine Sq (Sq (RD hnt (nn 2 []) [8] [(20, pB (!r3.2))] [] [] tv ?_))
  refine condM hm ?_ ?_
  ·intro h4 hm
   refine Sq (RD hnt (nn 4 []) [2, 7, 20] [(5, pI 0), (6, pI 4)] [1016, 1056] [] tv ?_)
   refine DW.cv [] [] [] [(1032, bx [ow 100000 0, pI 0, ow 100001 0, pI 0]), (100000, ob0 (roNode [])), (100001, ob0 (roTask []))] (Conv.ads [(.o 1032 0, 100000, 6, elems encNode dNode []), (.o 1032 2, 100001, 4, elems encTask dTask [])]) ?_
   obtain rfl := sj hm
   exact DW.ret (retK [roNode [], roTask []] [100000, 100001] (.tup [.agg [ow 0 0, pI 0, ow 1 0, pI 0], pI 0, pI 4]))
  ·intro h4 hm
   refine Sk ?_
   obtain ⟨r5, hr5, hm⟩ := bo hm
   refine Sq (RK hnt (nn 2 (o21 [] true r5 :: nn 6 [])) [(4, rr 1032), (5, pI r5.2.1), (6, pI r5.2.2)] [(1032, bx [ow 1192 r5.1.tree.nodes.length, pI r5.1.tree.next, ow 1193 r5.1.tasks.length, pI r5.1.next]), (1192, ob0 (roNode r5.1.tree.nodes)), (1193, ob0 (roTask r5.1.tasks))] (an (add_memberSpec p0 r3.1 r5 hr5) tv) ?_)
   obtain rfl := sj hm
   exact DW.ret (retK [roNode r5.1.tree.nodes, roTask r5.1.tasks] [1192, 1193] (.tup [.agg [ow 0 r5.1.tree.nodes.length, pI r5.1.tree.next, ow 1 r5.1.tasks.length, pI r5.1.next], pI r5.2.1, pI r5.2.2]))
abbrev o25 (ks : List Nat) (b : Bool) (RES : Hierarchy × Int × Int) : Orc := .call 49 ks b (.tup [.agg [ow 0 RES.1.tree.nodes.length, pI RES.1.tree.next, ow 1 RES.1.tasks.length, pI RES.1.next], pI RES.2.1, pI RES.2.2]) [] [roNode RES.1.tree.nodes, roTask RES.1.tasks]

theorem ExitFa_memberSpec (p0 : Task) (p1 : Int) (RES : Bool) (hm : ExitFa_member p0 p1 = some RES) : Spec Tryz.prog 98 [.p (.agg (encTask p0)), rr 0] [.box [pI p1]] (pB RES) [.box [pI p1]] [] := by
 unfold ExitFa_member at hm
 refine SO Tryz.func98 rfl rfl [(0, .p (.agg (encTask p0))), (1, rr 0)] [(0, bx [pI p1])] ?_
 intro cx hnt
 refine Sq (RD hnt (nn 2 []) [0] [(2, rr 1016)] [] [(1016, bx (pm (encTask p0)))] tv ?_)
 refine Sq (DW.regJ (sl2 := [(3, pB ((p0.id == p1) || (p0.process == p1)))]) (ob2 := [(0, bx [pI p1])]) ?_ ?_)
 ·rcases bt (p0.id == p1) with h1 | h1
  ·exact RT hnt (nn 5 (sk 4 (pT :: .no :: []))) [(3, pB true)] (an5 h1 tv) (by kernel_rfl) (.cons rfl (.of_eq (by rw [h1]; try rfl)) .nil)
  ·exact RT hnt (nn 9 (pF :: .no :: [])) [(3, pB (p0.process == p1))] (an5 h1 tv) (by kernel_rfl) (.cons rfl (.of_eq (by rw [h1]; try rfl)) .nil)
 ·refine DW.ret ?_
  obtain rfl := sj hm
  exact retK [.box [pI p1]] [] (pB ((p0.id == p1) || (p0.process == p1)))

theorem IndexFunc_slices_TaskQExitFa_memberSpec (p0 : List Task) (p1c0 : Int) (RES : Int) (hm : IndexFunc_slices_TaskQExitFa_member p0 p1c0 = some RES) : Spec Tryz.prog 143 [.p (slTask p0), .fn 98 [rr 0]] [.box [pI p1c0]] (pI RES) [.box [pI p1c0]] [] := by
 unfold IndexFunc_slices_TaskQExitFa_member at hm
 refine SO Tryz.func143 rfl rfl [(0, .p (slTask p0)), (1, .fn 98 [rr 0])] [(0, bx [pI p1c0])] ?_
 intro cx hnt
 refine Sq (RD hnt (.no :: []) [] [] [] [] tv ?_)
 refine Sq (Sq (RD hnt (nn 3 []) [] [(7, pI ((p0.length : Nat) : Int)), (8, pI 0)] [] [] tv ?_))
 refine Bk ?_
 obtain ⟨hc1, hm⟩ := go1 hm
 refine DW.rangeO (fun (k1 : Nat) (s1 : Unit) => mkSt [(0, .p (slTask p0)), (1, .fn 98 [rr 0]), (7, pI ((p0.length : Nat) : Int)), (8, pI ((k1 : Nat) : Int))] [(0, bx [pI p1c0])]) dTask hm Conv.eqK ?_
 intro k1 s1 n1 hk1 hs1 he1
 refine Sq (RD hnt (.no :: []) [] [(9, pB (decide (((k1 : Nat) : Int) < ((p0.length : Nat) : Int))))] [] [] tv ?_)
 refine Sq (condK (decide (((k1 : Nat) : Int) < ((p0.length : Nat) : Int))) ?_ ?_)
 ·intro h9
  have hlt1 : k1 < p0.length := by have := of_decide_eq_true h9; omega
  have hm := hs1 hlt1
  unfold IndexFunc_slices_TaskQExitFa_memberL1 at hm
  refine Sk ?_
  refine Sq (Bk ?_)
  refine Sq (RD hnt (nn 2 []) [9] [(5, pI ((k1 : Nat) : Int))] [] [] tv ?_)
  obtain ⟨r10, hr10, hm⟩ := bo hm
  refine Sq (RD hnt (nn 5 (.call 98 [0] true (pB r10) [.box [pI p1c0]] [] :: [])) [] [(16, pB r10)] [] [] (an (nn0 k1) (an (ltc hlt1) (an (ExitFa_memberSpec (p0.getD k1 (default : Task)) p1c0 r10 hr10) (an tv tv)))) ?_)
  refine condM hm ?_ ?_
  ·intro h11 hm
   refine Sq (RK hnt (nn 2 []) [(4, pI ((k1 : Nat) : Int))] [(0, bx [pI p1c0])] tv ?_)
   obtain rfl := sj hm
   exact DW.ret (retK [.box [pI p1c0]] [] (pI ((k1 : Nat) : Int)))
  ·intro h11 hm
   refine Sk ?_
   refine DW.done ?_
   show DW _ _ _ _ _
   refine RD hnt (nn 2 []) [5, 16] [(8, pI (w64 (((k1 : Nat) : Int) + 1)))] [] [] tv ?_
   exact jD () ⟨hlt1, hm⟩ (Conv.tp [(8, pI (w64 (((k1 : Nat) : Int) + 1)))] [] (by kernel_rfl) (.cons rfl (.of_eq (congrArg pI (w64_succ hlt1 hc1))) .nil) .nil)
 ·intro h9
  have hge1 : ¬ k1 < p0.length := by have := of_decide_eq_false h9; omega
  have hm := he1 hge1
  unfold IndexFunc_slices_TaskQExitFa_memberD1 at hm
  refine DW.exit ?_
  refine joinQ_exit ?_
  refine KQ_exit ?_
  refine blockQ_exit ?_
  show DW _ _ _ _ _
  refine Sq (RK hnt (.no :: []) [(4, pI (-1))] [(0, bx [pI p1c0])] tv ?_)
  obtain rfl := sj hm
  exact DW.ret (retK [.box [pI p1c0]] [] (pI (-1)))

abbrev c27e1 (s1 : (List Task) × Int × Int) := (s1.1.getD (Int.toNat s1.2.2) dTask)
abbrev c27e2 := ({ id := 0, process := 0, group := 0, user := 0 } : Task)
abbrev c27e3 (s1 : (List Task) × Int × Int) := (fillL s1.1 (Int.toNat s1.2.1) (subN s1.1.length (Int.toNat s1.2.1)) (c27e2))
abbrev c27e4 (s1 : (List Task) × Int × Int) := (updF (elTask s1.1) (Int.toNat s1.2.1) [vi (c27e1 s1).id, vi (c27e1 s1).process, vi (c27e1 s1).group, vi (c27e1 s1).user])
theorem DeleteFunc_slices_TaskQExitFa_memberSpec (p0 : List Task) (p1c0 : Int) (RES : Nat × (List Task) × Int) (hm : DeleteFunc_slices_TaskQExitFa_member p0 p1c0 = some RES) : Spec Tryz.prog 97 [ow 0 p0.length, .fn 98 [rr 1]] [roTask p0, .box [pI p1c0]] (ow 0 RES.1) [roTask RES.2.1, .box [pI RES.2.2]] [] := by
 unfold DeleteFunc_slices_TaskQExitFa_member at hm
 refine SO Tryz.func97 rfl rfl [(0, ow 0 p0.length), (1, .fn 98 [rr 1])] [(0, ob0 (roTask p0)), (1, bx [pI p1c0])] ?_
 intro cx hnt
 refine Sq (RD hnt (.no :: []) [] [] [] [] tv ?_)
 obtain ⟨r1, hr1, hm⟩ := bo hm
 refine Sq (RD hnt (nn 2 (.call 143 [1] true (pI r1) [.box [pI p1c0]] [] :: .no :: [])) [] [(5, pI r1)] [] [] (an (IndexFunc_slices_TaskQExitFa_memberSpec p0 p1c0 r1 hr1) (an tv tv)) ?_)
 refine Sq (Sq (RD hnt (nn 2 []) [] [(12, pB (r1 == (-1)))] [] [] tv ?_))
 refine condM hm ?_ ?_
 ·intro h2 hm
  refine Sq (RD hnt (nn 2 []) [0, 1, 5, 12] [(4, ow 0 p0.length)] [] [] tv ?_)
  obtain rfl := sj hm
  exact DW.ret (retK [roTask p0, .box [pI p1c0]] [] (ow 0 p0.length))
 ·intro h2 hm
  refine Sk ?_
  refine Sq (Sq (RD hnt (nn 3 []) [12] [(6, pI (w64 (r1 + 1)))] [] [] tv ?_))
  refine Bk ?_
  refine DW.whileO (fun (s1 : (List Task) × Int × Int) => mkSt [(0, ow 0 s1.1.length), (1, .fn 98 [rr 1]), (5, pI s1.2.1), (6, pI s1.2.2)] [(0, ob0 (roTask s1.1)), (1, bx [pI p1c0])]) hm Conv.eqK ?_
  intro s1 n1 hm
  unfold DeleteFunc_slices_TaskQExitFa_memberL1 at hm
  refine Sq (Sq (RD hnt (nn 4 []) [] [(19, pB (decide (s1.2.2 < ((s1.1.length : Nat) : Int))))] [] [] tv ?_))
  refine condM hm ?_ ?_
  ·intro h13 hm
   refine Sk ?_
   refine Sq ?_
   refine Jn (ι := (List Task) × Int) (fun (y2 : (List Task) × Int) => mkSt [(0, ow 0 y2.1.length), (1, .fn 98 [rr 1]), (5, pI y2.2), (6, pI s1.2.2)] [(0, ob0 (roTask y2.1)), (1, bx [pI p1c0])]) (fun y2 => (DeleteFunc_slices_TaskQExitFa_memberJ2 s1 n1) y2 = some RES) ?_ ?_
   ·intro y2 hm
    unfold DeleteFunc_slices_TaskQExitFa_memberJ2 at hm
    refine RD hnt (nn 3 []) [] [(6, pI (w64 (s1.2.2 + 1)))] [] [] tv ?_
    exact jD (y2.1, y2.2, (w64 (s1.2.2 + 1))) hm Conv.eqK
   ·refine Bk ?_
    obtain ⟨g14, g15, hm⟩ := go2 hm
    refine Sq (RD hnt (nn 6 []) [19] [(7, rr 1056)] [] [(1056, bx (pm (encTask (c27e1 s1))))] (an g14.1 (an g14.2 (an g15 tv))) ?_)
    obtain ⟨r16, hr16, hm⟩ := bo hm
    refine Sq (RD hnt (nn 2 (.call 98 [1] true (pB r16) [.box [pI p1c0]] [] :: .no :: [])) [] [(29, pB (!r16))] [] [] (an (ExitFa_memberSpec (c27e1 s1) p1c0 r16 hr16) (an tv tv)) ?_)
    refine condM hm ?_ ?_
    ·intro h17 hm
     obtain ⟨g18, g19, hm⟩ := go2 hm
     refine Sq (RN hnt (nn 5 []) [(0, ow 0 (s1.1.set (Int.toNat s1.2.1) (c27e1 s1)).length), (1, .fn 98 [rr 1]), (5, pI s1.2.1), (6, pI s1.2.2)] [(0, ob0 (roTask (s1.1.set (Int.toNat s1.2.1) (c27e1 s1)))), (1, bx [pI p1c0])] [(0, ow 0 s1.1.length)] [(0, .row 4 s1.1.length (c27e4 s1))] (an g18.1 (an g18.2 (an g19 tv))) (by kernel_rfl) (.cons rfl (MLe.ownLen (enc := encTask) (d := dTask) (f := (c27e4 s1)) (RowIs.upd RowIs.elems (c27e1 s1) rfl)) .nil) (.cons rfl (BLe.typed (RowIs.upd RowIs.elems (c27e1 s1) rfl)) .nil) ?_)
     refine RD hnt (nn 3 []) [] [(5, pI (w64 (s1.2.1 + 1)))] [] [] tv ?_
     exact bD ((s1.1.set (Int.toNat s1.2.1) (c27e1 s1)), (w64 (s1.2.1 + 1))) hm Conv.eqK
    ·intro h17 hm
     refine Sk ?_
     exact bD (s1.1, s1.2.1) hm Conv.t0
  ·intro h13 hm
   refine DW.exit ?_
   refine joinQ_exit ?_
   refine KQ_exit ?_
   refine blockQ_exit ?_
   show DW _ _ _ _ _
   obtain ⟨g20, g21, hm⟩ := go2 hm
   refine Sq (RN hnt (nn 4 []) [(0, ow 0 (c27e3 s1).length), (5, pI s1.2.1)] [(0, ob0 (roTask (c27e3 s1))), (1, bx [pI p1c0])] [(0, ow 0 s1.1.length)] [(0, .row 4 s1.1.length (overF (elTask s1.1) (Int.toNat s1.2.1) (subN s1.1.length (Int.toNat s1.2.1)) (fun _ => [vi 0, vi 0, vi 0, vi 0])))] (an (by omega : (0 : Int) ≤ s1.2.1) (an (by omega : s1.2.1 ≤ ((s1.1.length : Nat) : Int)) (an (by omega : ((s1.1.length : Nat) : Int) ≤ ((s1.1.length : Nat) : Int)) (an g21 tv)))) (by kernel_rfl) (.cons rfl (MLe.ownLen (enc := encTask) (d := dTask) (f := (overF (elTask s1.1) (Int.toNat s1.2.1) (subN s1.1.length (Int.toNat s1.2.1)) (fun _ => [vi 0, vi 0, vi 0, vi 0]))) (RowIs.fill RowIs.elems (c27e2) rfl (by first | exact g21 | omega))) .nil) (.cons rfl (BLe.typed (RowIs.fill RowIs.elems (c27e2) rfl (by first | exact g21 | omega))) .nil) ?_)
   obtain ⟨g22, hm⟩ := go1 hm
   refine Sq (RD hnt (nn 4 []) [0, 5] [(4, ow 0 (Int.toNat s1.2.1))] [] [] (an (by omega : (0 : Int) ≤ 0) (an (by omega : (0 : Int) ≤ s1.2.1) (an (by omega : s1.2.1 ≤ (((fillL s1.1 (Int.toNat s1.2.1) (subN s1.1.length (Int.toNat s1.2.1)) ({ id := 0, process := 0, group := 0, user := 0 } : Task)).length : Nat) : Int)) tv))) ?_)
   obtain rfl := sj hm
   exact DW.ret (retK [roTask (c27e3 s1), .box [pI p1c0]] [] (ow 0 (Int.toNat s1.2.1)))
abbrev o27 (ks : List Nat) (b : Bool) (RES : Nat × (List Task) × Int) : Orc := .call 97 ks b (ow 0 RES.1) [roTask RES.2.1, .box [pI RES.2.2]] []

abbrev c26e1 : Nat × Body := (1032, .box [ow 100000 0, pI 0, .p (.sl .nil 0 0 (fun _ => [])), pI 0])
abbrev c26e2 : Nat × Obj := (1032, bx [ow 100000 0, pI 0, .p (.sl .nil 0 0 (fun _ => [])), pI 0])
theorem Exit_memberSpec (p0 : Hierarchy) (p1 : Int) (RES : Hierarchy × Int) (hm : Exit_member p0 p1 = some RES) : Spec Tryz.prog 43 [.p (.agg (encHierarchy p0)), pI p1] [] (.tup [.agg [ow 0 RES.1.tree.nodes.length, pI RES.1.tree.next, .p (slTask RES.1.tasks), pI RES.1.next], pI RES.2]) [] [roNode RES.1.tree.nodes] := by
 unfold Exit_member at hm
 refine SO Tryz.func43 rfl rfl [(0, .p (.agg (encHierarchy p0))), (1, pI p1)] [] ?_
 intro cx hnt
 refine Sq (RK hnt (nn 4 []) [(2, rr 1016), (3, rr 1024), (4, rr 1032)] [(1016, bx (pm (encHierarchy p0))), (1024, bx [pI p1]), (1032, bx [.p (.sl .nil 0 0 (fun _ => [])), pI 0, .p (.sl .nil 0 0 (fun _ => [])), pI 0])] tv ?_)
 obtain ⟨r1, hr1, hm⟩ := bo hm
 refine Sq (Sq (RD hnt (.no :: o7 [] true r1 :: .no :: []) [] [(9, pB (!r1))] [] [] (an (Check_memberSpec p0 r1 hr1) tv) ?_))
 refine condM hm ?_ ?_
 ·intro h2 hm
  refine Sq (RD hnt (nn 3 []) [2, 3, 9] [(5, pI 1)] [1016, 1024] [] tv ?_)
  refine DW.conv (τ := mkSt [(4, rr 1032), (5, pI 1)] [(1032, bx [ow 100000 0, pI 0, .p (slTask []), pI 0]), (100000, ob0 (roNode []))]) (Conv.trans (τ := mkSt [(4, rr 1032), (5, pI 1)] [(c26e2), (100000, ob0 (roNode []))]) (Conv.ads [(.o 1032 0, 100000, 6, elems encNode dNode [])]) (Conv.tp [] [(c26e1)] (by kernel_rfl) .nil (.cons rfl (.box (.cons .rfl (.cons .rfl (.cons MLe.nilL (.cons .rfl .nil))))) .nil))) ?_
  obtain rfl := sj hm
  exact DW.ret (retK [roNode []] [100000] (.tup [.agg [ow 0 0, pI 0, .p (slTask []), pI 0], pI 1]))
 ·intro h2 hm
  refine Sk ?_
  obtain ⟨r3, hr3, hm⟩ := bo hm
  refine Sq (Sq (RD hnt (nn 2 (o15 [] true r3 :: .no :: [])) [9] [(14, pB (decide (r3 < 0)))] [] [] (an (At_crewSpec p0 p1 r3 hr3) tv) ?_))
  refine condM hm ?_ ?_
  ·intro h4 hm
   refine Sq (RD hnt (nn 3 []) [2, 3, 14] [(5, pI 4)] [1016, 1024] [] tv ?_)
   refine DW.conv (τ := mkSt [(4, rr 1032), (5, pI 4)] [(1032, bx [ow 100000 0, pI 0, .p (slTask []), pI 0]), (100000, ob0 (roNode []))]) (Conv.trans (τ := mkSt [(4, rr 1032), (5, pI 4)] [(c26e2), (100000, ob0 (roNode []))]) (Conv.ads [(.o 1032 0, 100000, 6, elems encNode dNode [])]) (Conv.tp [] [(c26e1)] (by kernel_rfl) .nil (.cons rfl (.box (.cons .rfl (.cons .rfl (.cons MLe.nilL (.cons .rfl .nil))))) .nil))) ?_
   obtain rfl := sj hm
   exact DW.ret (retK [roNode []] [100000] (.tup [.agg [ow 0 0, pI 0, .p (slTask []), pI 0], pI 4]))
  ·intro h4 hm
   refine Sk ?_
   obtain ⟨r5, hr5, hm⟩ := bo hm
   refine Sq (RD hnt (.no :: o22 [] true r5 :: nn 2 []) [2, 14] [(6, rr 1048)] [1016] [(1048, bx [ow 1136 r5.tree.nodes.length, pI r5.tree.next, ow 1137 r5.tasks.length, pI r5.next]), (1136, ob0 (roNode r5.tree.nodes)), (1137, ob0 (roTask r5.tasks))] (an (Copy_crewSpec p0 r5 hr5) tv) ?_)
   obtain ⟨r6, hr6, hm⟩ := bo hm
   obtain ⟨g7, g8, hm⟩ := go2 hm
   refine Sq (RD hnt (nn 3 (o27 [1137, 1024] true r6 :: nn 2 [])) [3] [] [1024] [(1048, bx [ow 1136 r5.tree.nodes.length, pI r5.tree.next, ow 1137 r6.1, pI r5.next]), (1137, ob0 (roTask r6.2.1))] (an (DeleteFunc_slices_TaskQExitFa_memberSpec r5.tasks p1 r6 hr6) (an (⟨rfl, g7⟩ : Body.same (roTask r5.tasks) (roTask r6.2.1)) (an tv tv))) ?_)
   refine Sq (RD hnt (nn 3 []) [6] [(5, pI 0)] [1048] [(1032, bx [ow 1136 r5.tree.nodes.length, pI r5.tree.next, ow 1137 r6.1, pI r5.next])] tv ?_)
   refine DW.conv (τ := mkSt [(4, rr 1032), (5, pI 0)] [(1032, bx [ow 1136 r5.tree.nodes.length, pI r5.tree.next, .p (slTask (r6.2.1.take r6.1)), pI r5.next]), (1136, ob0 (roNode r5.tree.nodes))]) (Conv.trans (τ := mkSt [(4, rr 1032), (5, pI 0)] [(1032, bx [ow 1136 r5.tree.nodes.length, pI r5.tree.next, .p (.sl .unk 4 r6.1 (elTask r6.2.1)), pI r5.next]), (1136, ob0 (roNode r5.tree.nodes))]) (Conv.frz [1137]) (Conv.tp [] [(1032, .box [ow 1136 r5.tree.nodes.length, pI r5.tree.next, .p (.sl .unk 4 r6.1 (elTask r6.2.1)), pI r5.next])] (by kernel_rfl) .nil (.cons rfl (.box (.cons .rfl (.cons .rfl (.cons (MLe.typed (RowIs.take RowIs.elems (by first | omega | (simp only [subN_eq, addN_eq] at *; omega)))) (.cons .rfl .nil))))) .nil))) ?_
   obtain rfl := sj hm
   exact DW.ret (retK [roNode r5.tree.nodes] [1136] (.tup [.agg [ow 0 r5.tree.nodes.length, pI r5.tree.next, .p (slTask (r6.2.1.take r6.1)), pI r5.next], pI 0]))
abbrev o26 (ks : List Nat) (b : Bool) (RES : Hierarchy × Int) : Orc := .call 43 ks b (.tup [.agg [ow 0 RES.1.tree.nodes.length, pI RES.1.tree.next, .p (slTask RES.1.tasks), pI RES.1.next], pI RES.2]) [] [roNode RES.1.tree.nodes]

theorem sane_law6Spec (RES : Bool) (hm : sane_law6 = some RES) : Spec Tryz.prog 42 [] [] (pB RES) [] [] := by
 unfold sane_law6 at hm
 refine SO Tryz.func42 rfl rfl [] [] ?_
 intro cx hnt
 refine Sq (RK hnt (.no :: []) [] [] tv ?_)
 obtain ⟨r1, hr1, hm⟩ := bo hm
 obtain ⟨r2, hr2, hm⟩ := bo hm
 refine Sq (RK hnt (o4 [] true r1 :: o6 [] false r2 :: nn 8 []) [(1, rr 1008), (2, pI r2.2.1), (3, pI r2.2.2)] [(1008, bx [ow 1080 r2.1.tree.nodes.length, pI r2.1.tree.next, ow 1081 r2.1.tasks.length, pI r2.1.next]), (1080, ob0 (roNode r2.1.tree.nodes)), (1081, ob0 (roTask r2.1.tasks))] (an (New_memberSpec r1 hr1) (an (Spawn_memberSpec r1 1 0 r2 hr2) tv)) ?_)
 refine Sq (DW.cv [] [] [1080] [(1008, bx [.p (slNode r2.1.tree.nodes), pI r2.1.tree.next, ow 1081 r2.1.tasks.length, pI r2.1.next])] (Conv.frz [1080]) ?_)
 refine DW.cv [] [] [1081] [(1008, bx (pm (encHierarchy r2.1)))] (Conv.frz [1081]) ?_
 obtain ⟨r5, hr5, hm⟩ := bo hm
 refine RD hnt (nn 2 (o25 [] true r5 :: nn 7 [])) [] [(4, pI r5.2.1), (5, pI r5.2.2)] [] [(1008, bx [ow 1136 r5.1.tree.nodes.length, pI r5.1.tree.next, ow 1137 r5.1.tasks.length, pI r5.1.next]), (1136, ob0 (roNode r5.1.tree.nodes)), (1137, ob0 (roTask r5.1.tasks))] (an (Clone_memberSpec r2.1 r2.2.1 r5 hr5) tv) ?_
 refine Sq (DW.cv [] [] [1136] [(1008, bx [.p (slNode r5.1.tree.nodes), pI r5.1.tree.next, ow 1137 r5.1.tasks.length, pI r5.1.next])] (Conv.frz [1136]) ?_)
 refine DW.cv [] [] [1137] [(1008, bx (pm (encHierarchy r5.1)))] (Conv.frz [1137]) ?_
 obtain ⟨r8, hr8, hm⟩ := bo hm
 refine RD hnt (nn 2 (o26 [] true r8 :: nn 6 [])) [1] [(6, rr 1048), (7, pI r8.2)] [1008] [(1048, bx [ow 1192 r8.1.tree.nodes.length, pI r8.1.tree.next, .p (slTask r8.1.tasks), pI r8.1.next]), (1192, ob0 (roNode r8.1.tree.nodes))] (an (Exit_memberSpec r5.1 r2.2.1 r8 hr8) tv) ?_
 refine Sq (DW.regJ (sl2 := [(0, pB (((((((r2.2.2 == 0) && (r2.2.1 == 1)) && (r5.2.2 == 0)) && (r5.2.1 == 2)) && (r8.2 == 0)) && (((r8.1.tasks.length : Nat) : Int) == 0)) && (r8.1.next == 3)))]) (ob2 := []) ?_ ?_)
 ·rcases bt (r2.2.2 == 0) with h9 | h9
  ·rcases bt (r2.2.1 == 1) with h10 | h10
   ·rcases bt (r5.2.2 == 0) with h11 | h11
    ·rcases bt (r5.2.1 == 2) with h12 | h12
     ·rcases bt (r8.2 == 0) with h13 | h13
      ·rcases bt (((r8.1.tasks.length : Nat) : Int) == 0) with h14 | h14
       ·exact RT hnt (nn 5 (pT :: nn 3 (pT :: nn 3 (pT :: nn 3 (pT :: nn 5 (pT :: nn 4 (pT :: .no :: []))))))) [(0, pB (r8.1.next == 3))] (an3 h9 (an3 h10 (an3 h11 (an3 h12 (an5 h13 (an4 h14 tv)))))) (by kernel_rfl) (.cons rfl (.of_eq (by rw [h9, h10, h11, h12, h13, h14]; try rfl)) .nil)
       ·exact RT hnt (nn 5 (pT :: nn 3 (pT :: nn 3 (pT :: nn 3 (pT :: nn 5 (pT :: .no :: sk 3 (pF :: .no :: []))))))) [(0, pB false)] (an3 h9 (an3 h10 (an3 h11 (an3 h12 (an5 h13 (an4 h14 tv)))))) (by kernel_rfl) (.cons rfl (.of_eq (by rw [h9, h10, h11, h12, h13, h14]; try rfl)) .nil)
      ·exact RT hnt (nn 5 (pT :: nn 3 (pT :: nn 3 (pT :: nn 3 (pT :: .no :: sk 4 (pF :: .no :: sk 3 (pF :: .no :: []))))))) [(0, pB false)] (an3 h9 (an3 h10 (an3 h11 (an3 h12 (an5 h13 (an4 ff tv)))))) (by kernel_rfl) (.cons rfl (.of_eq (by rw [h9, h10, h11, h12, h13]; try rfl)) .nil)
     ·exact RT hnt (nn 5 (pT :: nn 3 (pT :: nn 3 (pT :: .no :: sk 2 (pF :: .no :: sk 4 (pF :: .no :: sk 3 (pF :: .no :: []))))))) [(0, pB false)] (an3 h9 (an3 h10 (an3 h11 (an3 h12 (an3 ff (an6 ff tv)))))) (by kernel_rfl) (.cons rfl (.of_eq (by rw [h9, h10, h11, h12]; try rfl)) .nil)
    ·exact RT hnt (nn 5 (pT :: nn 3 (pT :: .no :: sk 2 (pF :: .no :: sk 2 (pF :: .no :: sk 4 (pF :: .no :: sk 3 (pF :: .no :: []))))))) [(0, pB false)] (an3 h9 (an3 h10 (an3 h11 (an6 ff (an6 ff tv))))) (by kernel_rfl) (.cons rfl (.of_eq (by rw [h9, h10, h11]; try rfl)) .nil)
   ·exact RT hnt (nn 5 (pT :: .no :: sk 2 (pF :: .no :: sk 2 (pF :: .no :: sk 2 (pF :: .no :: sk 4 (pF :: .no :: sk 3 (pF :: .no :: []))))))) [(0, pB false)] (an3 h9 (an3 h10 (an3 ff (an6 ff (an6 ff tv))))) (by kernel_rfl) (.cons rfl (.of_eq (by rw [h9, h10]; try rfl)) .nil)
  ·exact RT hnt (nn 3 (sk 2 (pF :: .no :: sk 2 (pF :: .no :: sk 2 (pF :: .no :: sk 2 (pF :: .no :: sk 4 (pF :: .no :: sk 3 (pF :: .no :: [])))))))) [(0, pB false)] (an3 h9 (an6 ff (an6 ff (an6 ff tv)))) (by kernel_rfl) (.cons rfl (.of_eq (by rw [h9]; try rfl)) .nil)
 ·refine DW.ret ?_
  obtain rfl := sj hm
  exact retK [] [] (pB (((((((r2.2.2 == 0) && (r2.2.1 == 1)) && (r5.2.2 == 0)) && (r5.2.1 == 2)) && (r8.2 == 0)) && (((r8.1.tasks.length : Nat) : Int) == 0)) && (r8.1.next == 3)))
abbrev o3 (ks : List Nat) (b : Bool) (RES : Bool) : Orc := .call 42 ks b (pB RES) [] []

theorem Roll_madeSpec (p0 : List Int) (RES : Dice) (hm : Roll_made p0 = some RES) : Spec Tryz.prog 16 [.p (slI p0)] [] (rr 0) [] [.box (pm (encDice RES))] := by
 unfold Roll_made at hm
 refine SO Tryz.func16 rfl rfl [(0, .p (slI p0))] [] ?_
 intro cx hnt
 refine Sq (RK hnt (.no :: []) [(0, .p (slI p0))] [] tv ?_)
 refine Sq (RK hnt (nn 4 []) [(2, rr 1040)] [(1040, bx [.p (slI p0), pI 0])] tv ?_)
 obtain rfl := sj hm
 exact DW.ret (retK [.box [.p (slI p0), pI 0]] [1040] (rr 0))
abbrev o30 (ks : List Nat) (b : Bool) (RES : Dice) : Orc := .call 16 ks b (rr 0) [] [.box (pm (encDice RES))]

abbrev c33e1 := ({ id := 1, parent := 0, name := ByteArray.empty, control := 0, kind := 0, owner := 0 } : Node)
theorem New_ref5Spec (RES : Tree) (hm : New_ref5 = some RES) : Spec Tryz.prog 120 [] [] (.agg [ow 0 RES.nodes.length, pI RES.next]) [] [roNode RES.nodes] := by
 unfold New_ref5 at hm
 refine SO Tryz.func120 rfl rfl [] [] ?_
 intro cx hnt
 refine Sq (RK hnt (.no :: []) [(0, rr 1000)] [(1000, bx [.p (.sl .nil 0 0 (fun _ => [])), pI 0])] tv ?_)
 refine Sq (RN hnt (nn 4 []) [(0, rr 1000)] [(1000, bx [ow 1016 [(c33e1)].length, pI 2]), (1016, ob0 (roNode [(c33e1)]))] [] [(1000, .box [ow 1016 1, pI 2]), (1016, .row 6 1 (cut 6 [vi 1, vi 0, vs ByteArray.empty, vi 0, vi 0, vi 0]))] tv (by kernel_rfl) .nil (.cons rfl (.box (.cons (MLe.ownLen (enc := encNode) (d := dNode) (f := (cut 6 [vi 1, vi 0, vs ByteArray.empty, vi 0, vi 0, vi 0])) (RowIs.lit (enc := encNode) (d := dNode) (n := 1) (f := (cut 6 [vi 1, vi 0, vs ByteArray.empty, vi 0, vi 0, vi 0])) [(c33e1)] rfl (fun | 0, _ => rfl | n + 1, h => absurd h (by omega)))) (.cons .rfl .nil))) (.cons rfl (BLe.typed (RowIs.lit (enc := encNode) (d := dNode) (n := 1) (f := (cut 6 [vi 1, vi 0, vs ByteArray.empty, vi 0, vi 0, vi 0])) [(c33e1)] rfl (fun | 0, _ => rfl | n + 1, h => absurd h (by omega)))) .nil)) ?_)
 obtain rfl := sj hm
 exact DW.ret (retK [roNode [(c33e1)]] [1016] (.agg [ow 0 [(c33e1)].length, pI 2]))
abbrev o33 (ks : List Nat) (b : Bool) (RES : Tree) : Orc := .call 120 ks b (.agg [ow 0 RES.nodes.length, pI RES.next]) [] [roNode RES.nodes]

theorem New_ref6Spec (RES : Hierarchy) (hm : New_ref6 = some RES) : Spec Tryz.prog 64 [] [] (.agg [ow 0 RES.tree.nodes.length, pI RES.tree.next, ow 1 RES.tasks.length, pI RES.next]) [] [roNode RES.tree.nodes, roTask RES.tasks] := by
 unfold New_ref6 at hm
 refine SO Tryz.func64 rfl rfl [] [] ?_
 intro cx hnt
 refine Sq (RK hnt (.no :: []) [(0, rr 1000)] [(1000, bx [.p (.sl .nil 0 0 (fun _ => [])), pI 0, .p (.sl .nil 0 0 (fun _ => [])), pI 0])] tv ?_)
 obtain ⟨r1, hr1, hm⟩ := bo hm
 refine Sq (RK hnt (o33 [] true r1 :: nn 2 []) [(0, rr 1000)] [(1000, bx [ow 1008 r1.nodes.length, pI r1.next, .p (.sl .nil 0 0 (fun _ => [])), pI 1]), (1008, ob0 (roNode r1.nodes))] (an (New_ref5Spec r1 hr1) tv) ?_)
 refine DW.cv [] [] [] [(1000, bx [ow 1008 r1.nodes.length, pI r1.next, ow 100000 0, pI 1]), (100000, ob0 (roTask []))] (Conv.ads [(.o 1000 2, 100000, 4, elems encTask dTask [])]) ?_
 obtain rfl := sj hm
 exact DW.ret (retK [roNode r1.nodes, roTask []] [1008, 100000] (.agg [ow 0 r1.nodes.length, pI r1.next, ow 1 0, pI 1]))
abbrev o32 (ks : List Nat) (b : Bool) (RES : Hierarchy) : Orc := .call 64 ks b (.agg [ow 0 RES.tree.nodes.length, pI RES.tree.next, ow 1 RES.tasks.length, pI RES.next]) [] [roNode RES.tree.nodes, roTask RES.tasks]

abbrev c35e1 (p0 : Dice) := (p0.l.getD (Int.toNat (w64 ((w64 (p0.atF + 1)) - 1))) 0)
theorem Next_Dice_madeSpec (p0 : Dice) (p1 : Int) (RES : Int × Dice) (hm : Next_Dice_made p0 p1 = some RES) : Spec Tryz.prog 19 [rr 0, pI p1] [.box (pm (encDice p0))] (pI RES.1) [.box (pm (encDice RES.2))] [] := by
 unfold Next_Dice_made at hm
 refine SO Tryz.func19 rfl rfl [(0, rr 0), (1, pI p1)] [(0, bx (pm (encDice p0)))] ?_
 intro cx hnt
 refine Sq (RD hnt (.no :: []) [] [] [] [] tv ?_)
 refine Sq (Sq (DW.regJ (sl2 := [(0, rr 0), (1, pI p1), (19, pB ((decide (p0.atF ≥ ((p0.l.length : Nat) : Int))) || (decide (p1 < 1))))]) (ob2 := [(0, bx (pm (encDice p0)))]) ?_ ?_))
 ·rcases bt (decide (p0.atF ≥ ((p0.l.length : Nat) : Int))) with h1 | h1
  ·exact RT hnt (nn 11 (sk 2 (pT :: []))) [(19, pB true)] (an3 h1 tv) (by kernel_rfl) (.cons rfl (.of_eq (by rw [h1]; try rfl)) .nil)
  ·exact RT hnt (nn 13 (pF :: [])) [(19, pB (decide (p1 < 1)))] (an3 h1 tv) (by kernel_rfl) (.cons rfl (.of_eq (by rw [h1]; try rfl)) .nil)
 ·refine condM hm ?_ ?_
  ·intro h2 hm
   refine Sq (RD hnt (.no :: []) [0, 1, 19] [(4, pI 0)] [] [] tv ?_)
   obtain rfl := sj hm
   exact DW.ret (retK [.box (pm (encDice p0))] [] (pI 0))
  ·intro h2 hm
   refine Sk ?_
   refine Sq (RD hnt (nn 8 []) [19] [] [] [(0, bx [.p (slI p0.l), pI (w64 (p0.atF + 1))])] tv ?_)
   obtain ⟨g3, g4, hm⟩ := go2 hm
   refine Sq (RD hnt (nn 14 []) [0] [(5, pI (Int.tmod (c35e1 p0) p1))] [] [] (an g3.1 (an g3.2 (an g4 tv))) ?_)
   refine Sq (Sq (RD hnt (nn 2 []) [] [(41, pB (decide ((Int.tmod (c35e1 p0) p1) < 0)))] [] [] tv ?_))
   refine Jn (ι := Int) (fun (y1 : Int) => mkSt [(5, pI y1)] [(0, bx [.p (slI p0.l), pI (w64 (p0.atF + 1))])]) (fun y1 => (Next_Dice_madeJ1 p0) y1 = some RES) ?_ ?_
   ·intro y1 hm
    unfold Next_Dice_madeJ1 at hm
    refine Sq (RD hnt (nn 2 []) [5] [(4, pI y1)] [] [] tv ?_)
    obtain rfl := sj hm
    exact DW.ret (retK [.box [.p (slI p0.l), pI (w64 (p0.atF + 1))]] [] (pI y1))
   ·refine condM hm ?_ ?_
    ·intro h5 hm
     refine RD hnt (nn 4 []) [1, 41] [(5, pI (w64 ((Int.tmod (c35e1 p0) p1) + p1)))] [] [] tv ?_
     exact jD (w64 ((Int.tmod (c35e1 p0) p1) + p1)) hm Conv.eqK
    ·intro h5 hm
     refine Sk ?_
     exact jD (Int.tmod (c35e1 p0) p1) hm Conv.t0
abbrev o35 (ks : List Nat) (b : Bool) (RES : Int × Dice) : Orc := .call 19 ks b (pI RES.1) [.box (pm (encDice RES.2))] []

theorem Name_Dice_madeSpec (p0 : Dice) (RES : ByteArray × Dice) (hm : Name_Dice_made p0 = some RES) : Spec Tryz.prog 132 [rr 0] [.box (pm (encDice p0))] (pS RES.1) [.box (pm (encDice RES.2))] [] := by
 unfold Name_Dice_made at hm
 refine SO Tryz.func132 rfl rfl [(0, rr 0)] [(0, bx (pm (encDice p0)))] ?_
 intro cx hnt
 refine Sq (RD hnt (.no :: []) [] [] [] [] tv ?_)
 obtain ⟨r3, hr3, hm⟩ := bo hm
 obtain ⟨g4, g5, hm⟩ := go2 hm
 refine Sq (RK hnt (.asR (ow 1024 [(bs [97]), (bs [98]), (bs [99]), (bs [119, 101, 98]), (bs [100, 98, 45, 49]), (bs [88, 95, 57])].length) [(bs [97]), (bs [98]), (bs [99]), (bs [119, 101, 98]), (bs [100, 98, 45, 49]), (bs [88, 95, 57])].length (elems encS ByteArray.empty [(bs [97]), (bs [98]), (bs [99]), (bs [119, 101, 98]), (bs [100, 98, 45, 49]), (bs [88, 95, 57])]) :: .no :: o35 [0] true r3 :: nn 3 []) [(2, pS ([(bs [97]), (bs [98]), (bs [99]), (bs [119, 101, 98]), (bs [100, 98, 45, 49]), (bs [88, 95, 57])].getD (Int.toNat r3.1) ByteArray.empty))] [(0, bx (pm (encDice r3.2)))] (an (congrArg (MV.own 1024 0 0) (RowIs.asP (enc := encS) (d := ByteArray.empty) (L := [(bs [97]), (bs [98]), (bs [99]), (bs [119, 101, 98]), (bs [100, 98, 45, 49]), (bs [88, 95, 57])]) (RowIs.lit (enc := encS) (d := ByteArray.empty) (n := 6) (f := (cut 1 [vs (bs [97]), vs (bs [98]), vs (bs [99]), vs (bs [119, 101, 98]), vs (bs [100, 98, 45, 49]), vs (bs [88, 95, 57])])) [(bs [97]), (bs [98]), (bs [99]), (bs [119, 101, 98]), (bs [100, 98, 45, 49]), (bs [88, 95, 57])] rfl (fun | 0, _ => rfl | 1, _ => rfl | 2, _ => rfl | 3, _ => rfl | 4, _ => rfl | 5, _ => rfl | n + 6, h => absurd h (by omega)))).1) (an (RowIs.asP (enc := encS) (d := ByteArray.empty) (L := [(bs [97]), (bs [98]), (bs [99]), (bs [119, 101, 98]), (bs [100, 98, 45, 49]), (bs [88, 95, 57])]) (RowIs.lit (enc := encS) (d := ByteArray.empty) (n := 6) (f := (cut 1 [vs (bs [97]), vs (bs [98]), vs (bs [99]), vs (bs [119, 101, 98]), vs (bs [100, 98, 45, 49]), vs (bs [88, 95, 57])])) [(bs [97]), (bs [98]), (bs [99]), (bs [119, 101, 98]), (bs [100, 98, 45, 49]), (bs [88, 95, 57])] rfl (fun | 0, _ => rfl | 1, _ => rfl | 2, _ => rfl | 3, _ => rfl | 4, _ => rfl | 5, _ => rfl | n + 6, h => absurd h (by omega)))) (an (Next_Dice_madeSpec p0 6 r3 hr3) (an tv (an g4.1 (an g4.2 (an g5 tv))))))) ?_)
 obtain rfl := sj hm
 exact DW.ret (retK [.box (pm (encDice r3.2))] [] (pS ([(bs [97]), (bs [98]), (bs [99]), (bs [119, 101, 98]), (bs [100, 98, 45, 49]), (bs [88, 95, 57])].getD (Int.toNat r3.1) ByteArray.empty)))
abbrev o36 (ks : List Nat) (b : Bool) (RES : ByteArray × Dice) : Orc := .call 132 ks b (pS RES.1) [.box (pm (encDice RES.2))] []

abbrev c40e1 (p0 : ByteArray) (k1 : Int) : Nat × MV := (57, pB (!((((byteAt p0 (Int.toNat k1)) : Nat) : Int) == 45)))
theorem Valid_ref1Spec (p0 : ByteArray) (RES : Bool) (hm : Valid_ref1 p0 = some RES) : Spec Tryz.prog 163 [pS p0] [] (pB RES) [] [] := by
 unfold Valid_ref1 at hm
 refine SO Tryz.func163 rfl rfl [(0, pS p0)] [] ?_
 intro cx hnt
 refine Sq (RK hnt (.no :: []) [(0, pS p0)] [] tv ?_)
 refine Sq (Sq ?_)
 refine Jn (ι := Bool) (fun (y1 : Bool) => mkSt [(0, pS p0), (17, pB y1)] []) (fun y1 => (Valid_ref1J1 p0) y1 = some RES) ?_ ?_
 ·intro y1 hm
  unfold Valid_ref1J1 at hm
  refine condM hm ?_ ?_
  ·intro h4 hm
   refine Sq (RK hnt (.no :: []) [(2, pB false)] [] tv ?_)
   obtain rfl := sj hm
   exact DW.ret (retK [] [] (pB false))
  ·intro h4 hm
   refine Sk ?_
   refine Sq (Sq (RK hnt (.no :: []) [(0, pS p0), (3, pI 0)] [] tv ?_))
   refine Bk ?_
   obtain ⟨hc1, hm⟩ := go1 hm
   refine DW.forO (fun (k1 : Int) (s1 : Unit) => mkSt [(0, pS p0), (3, pI k1)] []) (lo := 0) (hi := ((p0.size : Nat) : Int)) hm .refl ?_
   intro k1 s1 n1 hk1 hs1 he1
   refine Sq (Sq (RD hnt (nn 4 []) [] [(21, pB (decide (k1 < ((p0.size : Nat) : Int))))] [] [] tv ?_))
   refine condK (decide (k1 < ((p0.size : Nat) : Int))) ?_ ?_
   ·intro h55
    have hlt1 : k1 < ((p0.size : Nat) : Int) := by have := of_decide_eq_true h55; omega
    have hm := hs1 hlt1
    unfold Valid_ref1L1 at hm
    refine Sk ?_
    refine Sq (Bk ?_)
    obtain ⟨g56, hm⟩ := go1 hm
    refine Sq (RD hnt (nn 4 []) [21] [(4, .p (vk .u8 (((byteAt p0 (Int.toNat k1)) : Nat) : Int)))] [] [] (an g56.1 (an g56.2 tv)) ?_)
    refine Sq (DW.regJ (sl2 := [(0, pS p0), (3, pI k1), (57, pB (!((((((decide ((((byteAt p0 (Int.toNat k1)) : Nat) : Int) ≥ 97)) && (decide ((((byteAt p0 (Int.toNat k1)) : Nat) : Int) ≤ 122))) || ((decide ((((byteAt p0 (Int.toNat k1)) : Nat) : Int) ≥ 65)) && (decide ((((byteAt p0 (Int.toNat k1)) : Nat) : Int) ≤ 90)))) || ((decide ((((byteAt p0 (Int.toNat k1)) : Nat) : Int) ≥ 48)) && (decide ((((byteAt p0 (Int.toNat k1)) : Nat) : Int) ≤ 57)))) || ((((byteAt p0 (Int.toNat k1)) : Nat) : Int) == 95)) || ((((byteAt p0 (Int.toNat k1)) : Nat) : Int) == 45))))]) (ob2 := []) ?_ ?_)
    ·rcases bt (decide ((((byteAt p0 (Int.toNat k1)) : Nat) : Int) ≥ 97)) with h57 | h57
     ·rcases bt (decide ((((byteAt p0 (Int.toNat k1)) : Nat) : Int) ≤ 122)) with h58 | h58
      ·exact RT hnt (nn 5 (pT :: .no :: sk 6 (pT :: .no :: sk 6 (pT :: .no :: sk 2 (pT :: .no :: sk 2 (pT :: .no :: [])))))) [(57, pB false)] (an3 h57 (an5 h58 (an5 tt (an6 tt tv)))) (by kernel_rfl) (.cons rfl (.of_eq (by rw [h57, h58]; try rfl)) .nil)
      ·rcases bt (decide ((((byteAt p0 (Int.toNat k1)) : Nat) : Int) ≥ 65)) with h59 | h59
       ·rcases bt (decide ((((byteAt p0 (Int.toNat k1)) : Nat) : Int) ≤ 90)) with h60 | h60
        ·exact RT hnt (nn 5 (pT :: nn 6 (pT :: pF :: .no :: sk 6 (pT :: .no :: sk 2 (pT :: .no :: sk 2 (pT :: .no :: [])))))) [(57, pB false)] (an3 h57 (an3 h58 (an2 h59 (an h58 (an h59 (an h58 (an5 h60 (an6 tt tv)))))))) (by kernel_rfl) (.cons rfl (.of_eq (by rw [h57, h58, h59, h60]; try rfl)) .nil)
        ·rcases bt (decide ((((byteAt p0 (Int.toNat k1)) : Nat) : Int) ≥ 48)) with h61 | h61
         ·rcases bt (decide ((((byteAt p0 (Int.toNat k1)) : Nat) : Int) ≤ 57)) with h62 | h62
          ·exact RT hnt (nn 5 (pT :: nn 6 (pT :: pF :: nn 6 (pT :: pF :: .no :: sk 2 (pT :: .no :: sk 2 (pT :: .no :: [])))))) [(57, pB false)] (an3 h57 (an3 h58 (an2 h59 (an h58 (an h59 (an h58 (an3 h60 (an2 h61 (an h60 (an h61 (an h60 (an3 h62 (an3 tt tv))))))))))))) (by kernel_rfl) (.cons rfl (.of_eq (by rw [h57, h58, h59, h60, h61, h62]; try rfl)) .nil)
          ·rcases bt ((((byteAt p0 (Int.toNat k1)) : Nat) : Int) == 95) with h63 | h63
           ·exact RT hnt (nn 5 (pT :: nn 6 (pT :: pF :: nn 6 (pT :: pF :: nn 3 (pF :: .no :: sk 2 (pT :: .no :: [])))))) [(57, pB false)] (an3 h57 (an3 h58 (an2 h59 (an h58 (an h59 (an h58 (an3 h60 (an2 h61 (an h60 (an h61 (an h60 (an3 h62 (an3 h63 tv))))))))))))) (by kernel_rfl) (.cons rfl (.of_eq (by rw [h57, h58, h59, h60, h61, h62, h63]; try rfl)) .nil)
           ·exact RT hnt (nn 5 (pT :: nn 6 (pT :: pF :: nn 6 (pT :: pF :: nn 3 (pF :: nn 3 (pF :: .no :: [])))))) [(c40e1 p0 k1)] (an3 h57 (an3 h58 (an2 h59 (an h58 (an h59 (an h58 (an3 h60 (an2 h61 (an h60 (an h61 (an h60 (an3 h62 (an3 h63 tv))))))))))))) (by kernel_rfl) (.cons rfl (.of_eq (by rw [h57, h58, h59, h60, h61, h62, h63]; try rfl)) .nil)
         ·rcases bt ((((byteAt p0 (Int.toNat k1)) : Nat) : Int) == 95) with h64 | h64
          ·exact RT hnt (nn 5 (pT :: nn 6 (pT :: pF :: nn 4 (sk 2 (pF :: pF :: nn 3 (pF :: .no :: sk 2 (pT :: .no :: []))))))) [(57, pB false)] (an3 h57 (an3 h58 (an2 h59 (an h58 (an h59 (an h58 (an3 h60 (an2 h61 (an h60 (an h61 (an h60 (an3 ff (an3 h64 tv))))))))))))) (by kernel_rfl) (.cons rfl (.of_eq (by rw [h57, h58, h59, h60, h61, h64]; try rfl)) .nil)
          ·exact RT hnt (nn 5 (pT :: nn 6 (pT :: pF :: nn 4 (sk 2 (pF :: pF :: nn 3 (pF :: nn 3 (pF :: .no :: []))))))) [(c40e1 p0 k1)] (an3 h57 (an3 h58 (an2 h59 (an h58 (an h59 (an h58 (an3 h60 (an2 h61 (an h60 (an h61 (an h60 (an3 ff (an3 h64 tv))))))))))))) (by kernel_rfl) (.cons rfl (.of_eq (by rw [h57, h58, h59, h60, h61, h64]; try rfl)) .nil)
       ·rcases bt (decide ((((byteAt p0 (Int.toNat k1)) : Nat) : Int) ≥ 48)) with h65 | h65
        ·rcases bt (decide ((((byteAt p0 (Int.toNat k1)) : Nat) : Int) ≤ 57)) with h66 | h66
         ·exact RT hnt (nn 5 (pT :: nn 4 (sk 2 (pF :: pF :: nn 6 (pT :: pF :: .no :: sk 2 (pT :: .no :: sk 2 (pT :: .no :: []))))))) [(57, pB false)] (an3 h57 (an3 h58 (an2 h59 (an h58 (an h59 (an h58 (an3 ff (an2 h65 (an ff (an h65 (an ff (an3 h66 (an3 tt tv))))))))))))) (by kernel_rfl) (.cons rfl (.of_eq (by rw [h57, h58, h59, h65, h66]; try rfl)) .nil)
         ·rcases bt ((((byteAt p0 (Int.toNat k1)) : Nat) : Int) == 95) with h67 | h67
          ·exact RT hnt (nn 5 (pT :: nn 4 (sk 2 (pF :: pF :: nn 6 (pT :: pF :: nn 3 (pF :: .no :: sk 2 (pT :: .no :: []))))))) [(57, pB false)] (an3 h57 (an3 h58 (an2 h59 (an h58 (an h59 (an h58 (an3 ff (an2 h65 (an ff (an h65 (an ff (an3 h66 (an3 h67 tv))))))))))))) (by kernel_rfl) (.cons rfl (.of_eq (by rw [h57, h58, h59, h65, h66, h67]; try rfl)) .nil)
          ·exact RT hnt (nn 5 (pT :: nn 4 (sk 2 (pF :: pF :: nn 6 (pT :: pF :: nn 3 (pF :: nn 3 (pF :: .no :: []))))))) [(c40e1 p0 k1)] (an3 h57 (an3 h58 (an2 h59 (an h58 (an h59 (an h58 (an3 ff (an2 h65 (an ff (an h65 (an ff (an3 h66 (an3 h67 tv))))))))))))) (by kernel_rfl) (.cons rfl (.of_eq (by rw [h57, h58, h59, h65, h66, h67]; try rfl)) .nil)
        ·rcases bt ((((byteAt p0 (Int.toNat k1)) : Nat) : Int) == 95) with h68 | h68
         ·exact RT hnt (nn 5 (pT :: nn 4 (sk 2 (pF :: pF :: nn 4 (sk 2 (pF :: pF :: nn 3 (pF :: .no :: sk 2 (pT :: .no :: [])))))))) [(57, pB false)] (an3 h57 (an3 h58 (an2 h59 (an h58 (an h59 (an h58 (an3 ff (an2 h65 (an ff (an h65 (an4 ff (an3 h68 tv)))))))))))) (by kernel_rfl) (.cons rfl (.of_eq (by rw [h57, h58, h59, h65, h68]; try rfl)) .nil)
         ·exact RT hnt (nn 5 (pT :: nn 4 (sk 2 (pF :: pF :: nn 4 (sk 2 (pF :: pF :: nn 3 (pF :: nn 3 (pF :: .no :: [])))))))) [(c40e1 p0 k1)] (an3 h57 (an3 h58 (an2 h59 (an h58 (an h59 (an h58 (an3 ff (an2 h65 (an ff (an h65 (an4 ff (an3 h68 tv)))))))))))) (by kernel_rfl) (.cons rfl (.of_eq (by rw [h57, h58, h59, h65, h68]; try rfl)) .nil)
     ·rcases bt (decide ((((byteAt p0 (Int.toNat k1)) : Nat) : Int) ≥ 65)) with h69 | h69
      ·rcases bt (decide ((((byteAt p0 (Int.toNat k1)) : Nat) : Int) ≤ 90)) with h70 | h70
       ·exact RT hnt (nn 3 (sk 2 (pF :: nn 6 (pT :: pF :: .no :: sk 6 (pT :: .no :: sk 2 (pT :: .no :: sk 2 (pT :: .no :: []))))))) [(57, pB false)] (an3 h57 (an3 ff (an2 h69 (an ff (an h69 (an ff (an5 h70 (an6 tt tv)))))))) (by kernel_rfl) (.cons rfl (.of_eq (by rw [h57, h69, h70]; try rfl)) .nil)
       ·rcases bt (decide ((((byteAt p0 (Int.toNat k1)) : Nat) : Int) ≥ 48)) with h71 | h71
        ·rcases bt (decide ((((byteAt p0 (Int.toNat k1)) : Nat) : Int) ≤ 57)) with h72 | h72
         ·exact RT hnt (nn 3 (sk 2 (pF :: nn 6 (pT :: pF :: nn 6 (pT :: pF :: .no :: sk 2 (pT :: .no :: sk 2 (pT :: .no :: []))))))) [(57, pB false)] (an3 h57 (an3 ff (an2 h69 (an ff (an h69 (an ff (an3 h70 (an2 h71 (an h70 (an h71 (an h70 (an3 h72 (an3 tt tv))))))))))))) (by kernel_rfl) (.cons rfl (.of_eq (by rw [h57, h69, h70, h71, h72]; try rfl)) .nil)
         ·rcases bt ((((byteAt p0 (Int.toNat k1)) : Nat) : Int) == 95) with h73 | h73
          ·exact RT hnt (nn 3 (sk 2 (pF :: nn 6 (pT :: pF :: nn 6 (pT :: pF :: nn 3 (pF :: .no :: sk 2 (pT :: .no :: []))))))) [(57, pB false)] (an3 h57 (an3 ff (an2 h69 (an ff (an h69 (an ff (an3 h70 (an2 h71 (an h70 (an h71 (an h70 (an3 h72 (an3 h73 tv))))))))))))) (by kernel_rfl) (.cons rfl (.of_eq (by rw [h57, h69, h70, h71, h72, h73]; try rfl)) .nil)
          ·exact RT hnt (nn 3 (sk 2 (pF :: nn 6 (pT :: pF :: nn 6 (pT :: pF :: nn 3 (pF :: nn 3 (pF :: .no :: []))))))) [(c40e1 p0 k1)] (an3 h57 (an3 ff (an2 h69 (an ff (an h69 (an ff (an3 h70 (an2 h71 (an h70 (an h71 (an h70 (an3 h72 (an3 h73 tv))))))))))))) (by kernel_rfl) (.cons rfl (.of_eq (by rw [h57, h69, h70, h71, h72, h73]; try rfl)) .nil)
        ·rcases bt ((((byteAt p0 (Int.toNat k1)) : Nat) : Int) == 95) with h74 | h74
         ·exact RT hnt (nn 3 (sk 2 (pF :: nn 6 (pT :: pF :: nn 4 (sk 2 (pF :: pF :: nn 3 (pF :: .no :: sk 2 (pT :: .no :: [])))))))) [(57, pB false)] (an3 h57 (an3 ff (an2 h69 (an ff (an h69 (an ff (an3 h70 (an2 h71 (an h70 (an h71 (an h70 (an3 ff (an3 h74 tv))))))))))))) (by kernel_rfl) (.cons rfl (.of_eq (by rw [h57, h69, h70, h71, h74]; try rfl)) .nil)
         ·exact RT hnt (nn 3 (sk 2 (pF :: nn 6 (pT :: pF :: nn 4 (sk 2 (pF :: pF :: nn 3 (pF :: nn 3 (pF :: .no :: [])))))))) [(c40e1 p0 k1)] (an3 h57 (an3 ff (an2 h69 (an ff (an h69 (an ff (an3 h70 (an2 h71 (an h70 (an h71 (an h70 (an3 ff (an3 h74 tv))))))))))))) (by kernel_rfl) (.cons rfl (.of_eq (by rw [h57, h69, h70, h71, h74]; try rfl)) .nil)
      ·rcases bt (decide ((((byteAt p0 (Int.toNat k1)) : Nat) : Int) ≥ 48)) with h75 | h75
       ·rcases bt (decide ((((byteAt p0 (Int.toNat k1)) : Nat) : Int) ≤ 57)) with h76 | h76
        ·exact RT hnt (nn 3 (sk 2 (pF :: nn 4 (sk 2 (pF :: pF :: nn 6 (pT :: pF :: .no :: sk 2 (pT :: .no :: sk 2 (pT :: .no :: [])))))))) [(57, pB false)] (an3 h57 (an3 ff (an2 h69 (an ff (an h69 (an4 ff (an2 h75 (an ff (an h75 (an ff (an3 h76 (an3 tt tv)))))))))))) (by kernel_rfl) (.cons rfl (.of_eq (by rw [h57, h69, h75, h76]; try rfl)) .nil)
        ·rcases bt ((((byteAt p0 (Int.toNat k1)) : Nat) : Int) == 95) with h77 | h77
         ·exact RT hnt (nn 3 (sk 2 (pF :: nn 4 (sk 2 (pF :: pF :: nn 6 (pT :: pF :: nn 3 (pF :: .no :: sk 2 (pT :: .no :: [])))))))) [(57, pB false)] (an3 h57 (an3 ff (an2 h69 (an ff (an h69 (an4 ff (an2 h75 (an ff (an h75 (an ff (an3 h76 (an3 h77 tv)))))))))))) (by kernel_rfl) (.cons rfl (.of_eq (by rw [h57, h69, h75, h76, h77]; try rfl)) .nil)
         ·exact RT hnt (nn 3 (sk 2 (pF :: nn 4 (sk 2 (pF :: pF :: nn 6 (pT :: pF :: nn 3 (pF :: nn 3 (pF :: .no :: [])))))))) [(c40e1 p0 k1)] (an3 h57 (an3 ff (an2 h69 (an ff (an h69 (an4 ff (an2 h75 (an ff (an h75 (an ff (an3 h76 (an3 h77 tv)))))))))))) (by kernel_rfl) (.cons rfl (.of_eq (by rw [h57, h69, h75, h76, h77]; try rfl)) .nil)
       ·rcases bt ((((byteAt p0 (Int.toNat k1)) : Nat) : Int) == 95) with h78 | h78
        ·exact RT hnt (nn 3 (sk 2 (pF :: nn 4 (sk 2 (pF :: pF :: nn 4 (sk 2 (pF :: pF :: nn 3 (pF :: .no :: sk 2 (pT :: .no :: []))))))))) [(57, pB false)] (an3 h57 (an3 ff (an2 h69 (an ff (an h69 (an4 ff (an2 h75 (an ff (an h75 (an4 ff (an3 h78 tv))))))))))) (by kernel_rfl) (.cons rfl (.of_eq (by rw [h57, h69, h75, h78]; try rfl)) .nil)
        ·exact RT hnt (nn 3 (sk 2 (pF :: nn 4 (sk 2 (pF :: pF :: nn 4 (sk 2 (pF :: pF :: nn 3 (pF :: nn 3 (pF :: .no :: []))))))))) [(c40e1 p0 k1)] (an3 h57 (an3 ff (an2 h69 (an ff (an h69 (an4 ff (an2 h75 (an ff (an h75 (an4 ff (an3 h78 tv))))))))))) (by kernel_rfl) (.cons rfl (.of_eq (by rw [h57, h69, h75, h78]; try rfl)) .nil)
    ·refine condM hm ?_ ?_
     ·intro h79 hm
      refine Sq (RK hnt (.no :: []) [(2, pB false)] [] tv ?_)
      obtain rfl := sj hm
      exact DW.ret (retK [] [] (pB false))
     ·intro h79 hm
      refine Sk ?_
      refine DW.done ?_
      show DW _ _ _ _ _
      refine RK hnt (nn 3 []) [(0, pS p0), (3, pI (w64 (k1 + 1)))] [] tv ?_
      exact jD () ⟨hlt1, hm⟩ (Conv.tp [(3, pI (w64 (k1 + 1)))] [] (by kernel_rfl) (.cons rfl (.of_eq (congrArg pI (w64_for (lo := 0) (hi := ((p0.size : Nat) : Int)) (by omega) hk1 hlt1 (by omega)))) .nil) .nil)
   ·intro h55
    have hge1 : ¬ k1 < ((p0.size : Nat) : Int) := by have := of_decide_eq_false h55; omega
    have hm := he1 hge1
    unfold Valid_ref1D1 at hm
    refine DW.exit ?_
    refine joinQ_exit ?_
    refine KQ_exit ?_
    refine blockQ_exit ?_
    show DW _ _ _ _ _
    refine Sq (RK hnt (.no :: []) [(2, pB true)] [] tv ?_)
    obtain rfl := sj hm
    exact DW.ret (retK [] [] (pB true))
 ·rcases bt (((p0.size : Nat) : Int) == 0) with h1 | h1
  ·replace hm := if_t h1 hm
   refine RK hnt (nn 4 (sk 3 (pT :: .no :: sk 3 (pT :: [])))) [(0, pS p0), (17, pB true)] [] (an4 h1 (an4 tt tv)) ?_
   exact jD true hm .refl
  ·replace hm := if_f h1 hm
   rcases bt (decide (((p0.size : Nat) : Int) > 32)) with h2 | h2
   ·replace hm := if_t h2 hm
    refine RK hnt (nn 7 (pF :: .no :: sk 3 (pT :: []))) [(0, pS p0), (17, pB true)] [] (an4 h1 (an4 h2 tv)) ?_
    exact jD true hm .refl
   ·replace hm := if_f h2 hm
    obtain ⟨g3, hm⟩ := go1 hm
    refine RK hnt (nn 7 (pF :: nn 4 (pF :: []))) [(0, pS p0), (17, pB ((((byteAt p0 0) : Nat) : Int) == 45))] [] (an4 h1 (an2 h2 (an (nn0 0) (an (ltc g3) (an2 h2 tv))))) ?_
    exact jD ((((byteAt p0 0) : Nat) : Int) == 45) hm .refl
abbrev o40 (ks : List Nat) (b : Bool) (RES : Bool) : Orc := .call 163 ks b (pB RES) [] []

abbrev c39e1 (p0 : Tree) (p1 : Int) := (p0.nodes.getD (Int.toNat p1) dNode)
abbrev c39e2 (p0 : Tree) (p1 : Int) : Nat × Obj := (1040, bx (pm (encNode (c39e1 p0 p1))))
abbrev c39e3 (p0 : Tree) : Nat × Obj := (1016, bx (pm (encTree p0)))
abbrev c39e4 (p0 : Tree) (k1 : Int) := (p0.nodes.getD (Int.toNat k1) dNode)
theorem node_ref5Spec (p0 : Tree) (p1 : Int) (RES : Bool) (hm : node_ref5 p0 p1 = some RES) : Spec Tryz.prog 154 [.p (.agg (encTree p0)), pI p1] [] (pB RES) [] [] := by
 unfold node_ref5 at hm
 refine SO Tryz.func154 rfl rfl [(0, .p (.agg (encTree p0))), (1, pI p1)] [] ?_
 intro cx hnt
 refine Sq (RK hnt (nn 2 []) [(1, pI p1), (2, rr 1016)] [(c39e3 p0)] tv ?_)
 obtain ⟨g1, hm⟩ := go1 hm
 refine Sq (RD hnt (nn 7 []) [] [(5, rr 1040)] [] [(c39e2 p0 p1)] (an g1.1 (an g1.2 tv)) ?_)
 refine Sq (Sq (DW.regJ (sl2 := [(1, pI p1), (2, rr 1016), (5, rr 1040), (40, pB (((((((c39e1 p0 p1).kind != 0) && ((c39e1 p0 p1).kind != 1)) || (decide ((c39e1 p0 p1).control < 0))) || (decide ((c39e1 p0 p1).control > 31))) || (decide ((c39e1 p0 p1).owner < 0))) || (decide ((c39e1 p0 p1).owner > 1048576))))]) (ob2 := [(c39e3 p0), (c39e2 p0 p1)]) ?_ ?_))
 ·rcases bt ((c39e1 p0 p1).kind != 0) with h2 | h2
  ·rcases bt ((c39e1 p0 p1).kind != 1) with h3 | h3
   ·exact RT hnt (nn 7 (pT :: .no :: sk 3 (pT :: .no :: sk 3 (pT :: .no :: sk 3 (pT :: .no :: sk 3 (pT :: [])))))) [(40, pB true)] (an4 h2 (an4 h3 (an6 tt (an6 tt tv)))) (by kernel_rfl) (.cons rfl (.of_eq (by rw [h2, h3]; try rfl)) .nil)
   ·rcases bt (decide ((c39e1 p0 p1).control < 0)) with h4 | h4
    ·exact RT hnt (nn 7 (pT :: nn 4 (pF :: .no :: sk 3 (pT :: .no :: sk 3 (pT :: .no :: sk 3 (pT :: [])))))) [(40, pB true)] (an4 h2 (an4 h3 (an4 h4 (an2 tt (an6 tt tv))))) (by kernel_rfl) (.cons rfl (.of_eq (by rw [h2, h3, h4]; try rfl)) .nil)
    ·rcases bt (decide ((c39e1 p0 p1).control > 31)) with h5 | h5
     ·exact RT hnt (nn 7 (pT :: nn 4 (pF :: nn 4 (pF :: .no :: sk 3 (pT :: .no :: sk 3 (pT :: [])))))) [(40, pB true)] (an4 h2 (an4 h3 (an4 h4 (an4 h5 (an4 tt tv))))) (by kernel_rfl) (.cons rfl (.of_eq (by rw [h2, h3, h4, h5]; try rfl)) .nil)
     ·rcases bt (decide ((c39e1 p0 p1).owner < 0)) with h6 | h6
      ·exact RT hnt (nn 7 (pT :: nn 4 (pF :: nn 4 (pF :: nn 4 (pF :: .no :: sk 3 (pT :: [])))))) [(40, pB true)] (an4 h2 (an4 h3 (an4 h4 (an4 h5 (an4 h6 tv))))) (by kernel_rfl) (.cons rfl (.of_eq (by rw [h2, h3, h4, h5, h6]; try rfl)) .nil)
      ·exact RT hnt (nn 7 (pT :: nn 4 (pF :: nn 4 (pF :: nn 4 (pF :: nn 4 (pF :: [])))))) [(40, pB (decide ((c39e1 p0 p1).owner > 1048576)))] (an4 h2 (an4 h3 (an4 h4 (an4 h5 (an4 h6 tv))))) (by kernel_rfl) (.cons rfl (.of_eq (by rw [h2, h3, h4, h5, h6]; try rfl)) .nil)
  ·rcases bt (decide ((c39e1 p0 p1).control < 0)) with h7 | h7
   ·exact RT hnt (nn 4 (sk 3 (pF :: nn 4 (pF :: .no :: sk 3 (pT :: .no :: sk 3 (pT :: .no :: sk 3 (pT :: []))))))) [(40, pB true)] (an4 h2 (an4 ff (an4 h7 (an2 tt (an6 tt tv))))) (by kernel_rfl) (.cons rfl (.of_eq (by rw [h2, h7]; try rfl)) .nil)
   ·rcases bt (decide ((c39e1 p0 p1).control > 31)) with h8 | h8
    ·exact RT hnt (nn 4 (sk 3 (pF :: nn 4 (pF :: nn 4 (pF :: .no :: sk 3 (pT :: .no :: sk 3 (pT :: []))))))) [(40, pB true)] (an4 h2 (an4 ff (an4 h7 (an4 h8 (an4 tt tv))))) (by kernel_rfl) (.cons rfl (.of_eq (by rw [h2, h7, h8]; try rfl)) .nil)
    ·rcases bt (decide ((c39e1 p0 p1).owner < 0)) with h9 | h9
     ·exact RT hnt (nn 4 (sk 3 (pF :: nn 4 (pF :: nn 4 (pF :: nn 4 (pF :: .no :: sk 3 (pT :: []))))))) [(40, pB true)] (an4 h2 (an4 ff (an4 h7 (an4 h8 (an4 h9 tv))))) (by kernel_rfl) (.cons rfl (.of_eq (by rw [h2, h7, h8, h9]; try rfl)) .nil)
     ·exact RT hnt (nn 4 (sk 3 (pF :: nn 4 (pF :: nn 4 (pF :: nn 4 (pF :: nn 4 (pF :: []))))))) [(40, pB (decide ((c39e1 p0 p1).owner > 1048576)))] (an4 h2 (an4 ff (an4 h7 (an4 h8 (an4 h9 tv))))) (by kernel_rfl) (.cons rfl (.of_eq (by rw [h2, h7, h8, h9]; try rfl)) .nil)
 ·refine condM hm ?_ ?_
  ·intro h10 hm
   refine Sq (RK hnt (.no :: []) [(4, pB false)] [] tv ?_)
   obtain rfl := sj hm
   exact DW.ret (retK [] [] (pB false))
  ·intro h10 hm
   refine Sk ?_
   refine Sq (Sq (RD hnt (nn 2 []) [40] [(42, pB (p1 == 0))] [] [] tv ?_))
   refine condM hm ?_ ?_
   ·intro h11 hm
    refine Sq (DW.regJ (sl2 := [(4, pB (((((c39e1 p0 p1).id == 1) && ((c39e1 p0 p1).parent == 0)) && (beqS (c39e1 p0 p1).name ByteArray.empty)) && ((c39e1 p0 p1).kind == 0)))]) (ob2 := []) ?_ ?_)
    ·rcases bt ((c39e1 p0 p1).id == 1) with h12 | h12
     ·rcases bt ((c39e1 p0 p1).parent == 0) with h13 | h13
      ·rcases bt (beqS (c39e1 p0 p1).name ByteArray.empty) with h14 | h14
       ·exact RT hnt (nn 7 (pT :: nn 4 (pT :: nn 4 (pT :: .no :: [])))) [(4, pB ((c39e1 p0 p1).kind == 0))] (an4 h12 (an4 h13 (an4 h14 tv))) (by kernel_rfl) (.cons rfl (.of_eq (by rw [h12, h13, h14]; try rfl)) .nil)
       ·exact RT hnt (nn 7 (pT :: nn 4 (pT :: .no :: sk 3 (pF :: .no :: [])))) [(4, pB false)] (an4 h12 (an4 h13 (an4 h14 tv))) (by kernel_rfl) (.cons rfl (.of_eq (by rw [h12, h13, h14]; try rfl)) .nil)
      ·exact RT hnt (nn 7 (pT :: .no :: sk 3 (pF :: .no :: sk 3 (pF :: .no :: [])))) [(4, pB false)] (an4 h12 (an4 h13 (an4 ff tv))) (by kernel_rfl) (.cons rfl (.of_eq (by rw [h12, h13]; try rfl)) .nil)
     ·exact RT hnt (nn 4 (sk 3 (pF :: .no :: sk 3 (pF :: .no :: sk 3 (pF :: .no :: []))))) [(4, pB false)] (an4 h12 (an2 ff (an6 ff tv))) (by kernel_rfl) (.cons rfl (.of_eq (by rw [h12]; try rfl)) .nil)
    ·refine DW.ret ?_
     obtain rfl := sj hm
     exact retK [] [] (pB (((((c39e1 p0 p1).id == 1) && ((c39e1 p0 p1).parent == 0)) && (beqS (c39e1 p0 p1).name ByteArray.empty)) && ((c39e1 p0 p1).kind == 0)))
   ·intro h11 hm
    refine Sk ?_
    obtain ⟨g15, hm⟩ := go1 hm
    refine Sq (Sq ?_)
    refine Jn (ι := Bool) (fun (y1 : Bool) => mkSt [(1, pI p1), (2, rr 1016), (5, rr 1040), (76, pB y1)] [(c39e3 p0), (c39e2 p0 p1)]) (fun y1 => (node_ref5J1 p0 p1) y1 = some RES) ?_ ?_
    ·intro y1 hm
     unfold node_ref5J1 at hm
     refine condM hm ?_ ?_
     ·intro h18 hm
      refine Sq (RK hnt (.no :: []) [(4, pB false)] [] tv ?_)
      obtain rfl := sj hm
      exact DW.ret (retK [] [] (pB false))
     ·intro h18 hm
      refine Sk ?_
      refine Sq (RD hnt (.no :: []) [76] [(6, pB false)] [] [] tv ?_)
      refine Sq (Sq (RD hnt (.no :: []) [] [(7, pI 0)] [] [] tv ?_))
      refine Bk ?_
      obtain ⟨hc1, hm⟩ := go1 hm
      refine DW.forO (fun (k1 : Int) (s1 : Bool) => mkSt [(1, pI p1), (2, rr 1016), (5, rr 1040), (6, pB s1), (7, pI k1)] [(c39e3 p0), (c39e2 p0 p1)]) (lo := 0) (hi := p1) hm Conv.eqK ?_
      intro k1 s1 n1 hk1 hs1 he1
      refine Sq (Sq (RD hnt (nn 3 []) [] [(79, pB (decide (k1 < p1)))] [] [] tv ?_))
      refine condK (decide (k1 < p1)) ?_ ?_
      ·intro h32
       have hlt1 : k1 < p1 := by have := of_decide_eq_true h32; omega
       have hm := hs1 hlt1
       unfold node_ref5L1 at hm
       refine Sk ?_
       refine Sq (Bk ?_)
       refine Sq ?_
       refine Jn (ι := Bool) (fun (y5 : Bool) => mkSt [(1, pI p1), (2, rr 1016), (5, rr 1040), (6, pB y5), (7, pI k1)] [(c39e3 p0), (c39e2 p0 p1)]) (fun y5 => (node_ref5J5 p0 p1 k1 n1) y5 = some RES) ?_ ?_
       ·intro y5 hm
        unfold node_ref5J5 at hm
        obtain ⟨g35, hm⟩ := go1 hm
        refine Sq ?_
        refine Jn (ι := Bool) (fun (y6 : Bool) => mkSt [(1, pI p1), (2, rr 1016), (5, rr 1040), (6, pB y5), (7, pI k1), (113, pB y6)] [(c39e3 p0), (c39e2 p0 p1)]) (fun y6 => (node_ref5J6 n1 y5) y6 = some RES) ?_ ?_
        ·intro y6 hm
         unfold node_ref5J6 at hm
         refine condM hm ?_ ?_
         ·intro h38 hm
          refine Sq (RK hnt (.no :: []) [(4, pB false)] [] tv ?_)
          obtain rfl := sj hm
          exact DW.ret (retK [] [] (pB false))
         ·intro h38 hm
          refine Sk ?_
          refine DW.done ?_
          show DW _ _ _ _ _
          refine RD hnt (nn 3 []) [113] [(7, pI (w64 (k1 + 1)))] [] [] tv ?_
          exact jD y5 ⟨hlt1, hm⟩ (Conv.tp [(7, pI (w64 (k1 + 1)))] [] (by kernel_rfl) (.cons rfl (.of_eq (congrArg pI (w64_for (lo := 0) (hi := p1) (by omega) hk1 hlt1 (by omega)))) .nil) .nil)
        ·rcases bt ((c39e4 p0 k1).parent == (c39e1 p0 p1).parent) with h36 | h36
         ·replace hm := if_t h36 hm
          obtain ⟨g37, hm⟩ := go1 hm
          refine RD hnt (nn 19 (pT :: [])) [] [(113, pB (beqS (c39e4 p0 k1).name (c39e1 p0 p1).name))] [] [] (an g35.1 (an g35.2 (an4 h36 (an g37.1 (an g37.2 (an6 h36 tv)))))) ?_
          exact jD (beqS (c39e4 p0 k1).name (c39e1 p0 p1).name) hm Conv.eqK
         ·replace hm := if_f h36 hm
          refine RD hnt (nn 10 (sk 9 (pF :: []))) [] [(113, pB false)] [] [] (an g35.1 (an g35.2 (an4 h36 (an6 h36 tv)))) ?_
          exact jD false hm Conv.eqK
       ·rcases bt s1 with h33 | h33
        ·replace hm := if_t h33 hm
         refine RD hnt (nn 2 (sk 9 (pT :: .no :: []))) [79] [(6, pB true)] [] [] (an4 h33 (an6 h33 tv)) ?_
         exact jD true hm Conv.eqK
        ·replace hm := if_f h33 hm
         obtain ⟨g34, hm⟩ := go1 hm
         refine RD hnt (nn 11 (pF :: .no :: [])) [79] [(6, pB ((c39e4 p0 k1).id == (c39e1 p0 p1).parent))] [] [] (an4 h33 (an g34.1 (an g34.2 (an6 h33 tv)))) ?_
         exact jD ((c39e4 p0 k1).id == (c39e1 p0 p1).parent) hm Conv.eqK
      ·intro h32
       have hge1 : ¬ k1 < p1 := by have := of_decide_eq_false h32; omega
       have hm := he1 hge1
       unfold node_ref5D1 at hm
       refine DW.exit ?_
       refine joinQ_exit ?_
       refine KQ_exit ?_
       refine blockQ_exit ?_
       show DW _ _ _ _ _
       refine Sq (RK hnt (nn 2 []) [(4, pB s1)] [] tv ?_)
       obtain rfl := sj hm
       exact DW.ret (retK [] [] (pB s1))
    ·rcases bt (decide ((c39e1 p0 p1).id ≤ (p0.nodes.getD (Int.toNat (w64 (p1 - 1))) dNode).id)) with h16 | h16
     ·replace hm := if_t h16 hm
      refine RD hnt (nn 11 (sk 4 (pT :: []))) [42] [(76, pB true)] [] [] (an g15.1 (an g15.2 (an5 h16 tv))) ?_
      exact jD true hm Conv.eqK
     ·replace hm := if_f h16 hm
      obtain ⟨r17, hr17, hm⟩ := bo hm
      refine RD hnt (nn 13 (o40 [] true r17 :: .no :: pF :: [])) [42] [(76, pB (!r17))] [] [] (an g15.1 (an g15.2 (an3 h16 (an (Valid_ref1Spec (c39e1 p0 p1).name r17 hr17) (an2 h16 tv))))) ?_
      exact jD (!r17) hm Conv.eqK
abbrev o39 (ks : List Nat) (b : Bool) (RES : Bool) : Orc := .call 154 ks b (pB RES) [] []
end Go.Dm

