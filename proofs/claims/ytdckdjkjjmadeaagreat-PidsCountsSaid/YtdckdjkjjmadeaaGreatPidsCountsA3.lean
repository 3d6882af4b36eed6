/- Texts of the proof of PidsCounts: the data machine, the models of the Go functions, their contracts. -/
import Derived.Test.YtdckdjkjjmadeaaGreatPidsCountsA2
import Derived.Test.YtdckdjkjjmadeaaGreatPidsCountsA1
import Derived.Test.YtdckdjkjjmadeaaGreatProg
set_option linter.unusedVariables false
set_option linter.unusedSimpArgs false
/- Plain theory, part 16: made counts. -/
namespace Go.Dm

theorem getD_set_self {α : Type} {l : List α} {i : Nat} {a d : α} (h : i < l.length) : (l.set i a).getD i d = a := by
  simp [List.getD_eq_getElem?_getD, h]
theorem map_set_same {α β : Type} {f : α → β} {l : List α} {i : Nat} {a d : α} (h : i < l.length) (e : f a = f (l.getD i d)) : (l.set i a).map f = l.map f := by
  rw [List.map_set, e, getD_lt h]
  apply List.ext_getElem
  · simp
  · intro j h1 h2
    rw [List.getElem_set]
    split
    · rename_i q; subst q; simp
    · rfl
theorem mem_set_cases {α : Type} {l : List α} {i : Nat} {a x : α} (h : x ∈ l.set i a) : x = a ∨ x ∈ l := by
  rcases List.mem_or_eq_of_mem_set h with h | h
  · exact .inr h
  · exact .inl h

theorem maxI_le {a b c : Int} (h1 : a ≤ c) (h2 : b ≤ c) : maxI a b ≤ c := by
  unfold maxI
  split <;> omega
/-- counts as laws make them -/
structure CntMade (h : Hierarchy) (l : List Count) : Prop where
  ok : CntOk h l
  ev : ∀ c ∈ l, c.events ≤ 2

theorem CntMade.set {h : Hierarchy} {l : List Count} (m : CntMade h l) {i : Nat} (hi : i < l.length) {c : Count} (hg : c.group = (l.getD i default).group) (hv : CntV h c) (he : c.events ≤ 2) : CntMade h (l.set i c) := by
  refine ⟨⟨?_, ?_⟩, ?_⟩
  · rw [map_set_same (d := default) hi hg, m.ok.ids]
  · intro x hx
    rcases mem_set_cases hx with rfl | hx
    · exact hv
    · exact m.ok.val x hx
  · intro x hx
    rcases mem_set_cases hx with rfl | hx
    · exact he
    · exact m.ev x hx

theorem new_made {h : Hierarchy} (w : WfH h) : CntMade h (h.tree.nodes.map (adjC h [])) := by
  have l1 := w.len
  refine ⟨⟨?_, ?_⟩, ?_⟩
  · rw [List.map_map]
    rfl
  · intro c hc
    obtain ⟨x, hx, rfl⟩ := List.mem_map.mp hc
    have := countN_le h x.id
    refine ⟨rfl, .inr rfl, ?_, ?_, by simp [adjC, getC], by simp [adjC, getC]⟩
    · simp only [adjC, maxI]
      split <;> omega
    · exact maxI_le (show (0 : Int) ≤ 128 by omega) (show ((countN h x.id : Nat) : Int) ≤ 128 by omega)
  · intro c hc
    obtain ⟨x, hx, rfl⟩ := List.mem_map.mp hc
    simp [adjC, getC]

theorem New_ref10_t {h : Hierarchy} (w : WfH h) : New_ref10 h = some (h.tree.nodes.map (adjC h [])) := by
  unfold New_ref10
  rw [Adjust_ref10_t w (by simp)]
  rfl
theorem New_pids_t {h : Hierarchy} (w : WfH h) : New_pids h = some (h.tree.nodes.map (adjC h [])) := by
  unfold New_pids
  rw [Adjust_pids_t w (by simp)]
  rfl

theorem counts_ok {d : Dice} (hd : DiceOk d) {h : Hierarchy} (w : WfH h) : Ok (counts_law10 d h) (fun r => CntMade h r.1 ∧ DiceOk r.2) := by
  have l1 := w.len
  have l2 := w.tree.len2
  unfold counts_law10
  refine Ok.step (New_ref10_t w) ?_
  generalize hL : h.tree.nodes.map (adjC h []) = L
  have m0 : CntMade h L := by rw [← hL]; exact new_made w
  have hlen := m0.ok.len
  refine Ok.guard (by omega) ?_
  refine Ok.for (fun _ s => DiceOk s.1 ∧ CntMade h s.2) ⟨hd, m0⟩ ?_ ?_
  · rintro j ⟨e, l⟩ n hj ⟨i1, i2⟩ hn
    simp only at i1 i2
    have hll := i2.ok.len
    have hjl : j < l.length := by omega
    have ej : Int.toNat (0 + (j : Int)) = j := by omega
    unfold counts_law10L1
    have hJ : ∀ y : Dice × List Count, DiceOk y.1 → CntMade h y.2 → Ok (counts_law10J3 (0 + (j : Int)) n y) (fun r => CntMade h r.1 ∧ DiceOk r.2) := by
      rintro ⟨e, l⟩ y1 y2
      simp only at y1 y2
      have hll := y2.ok.len
      have hjl : j < l.length := by omega
      unfold counts_law10J3
      simp only
      rw [ej]
      refine Ok.guard (by omega) (Ok.guard hjl ?_)
      refine Ok.bind (NextPos_ok y1 3 (by omega) (by omega)) fun r3 ⟨h3, a1, a2⟩ => ?_
      refine Ok.guard (by omega) (Ok.guard hjl ?_)
      refine Ok.bind (NextPos_ok h3 3 (by omega) (by omega)) fun r4 ⟨h4, a3, a4⟩ => ?_
      refine Ok.guard (by rw [List.length_set]; omega) (Ok.guard (by rw [List.length_set]; omega) (hn _ ⟨h4, ?_⟩))
      simp only
      rw [getD_set_self hjl, List.set_set]
      have v := y2.ok.val _ (getD_mem (d := default) hjl)
      have p1 := v.p1
      have p2 := v.p2
      have hnow := v.now
      have hle := countN_le h (l.getD j default).group
      have hw : w64 ((l.getD j default).peak + r3.1) = (l.getD j default).peak + r3.1 := w64_id (by omega) (by omega)
      simp only [hw]
      refine y2.set hjl rfl ⟨v.now, v.limit, ?_, ?_, by simp only; omega, by simp only; omega⟩ (by simp only; omega)
      · simp only [minI]
        split <;> omega
      · simp only [minI]
        split <;> omega
    refine Ok.bind (Bool_ok i1 2 (by omega)) fun r1 h1 => Ok.ite (fun _ => ?_) fun _ => hJ _ h1 i2
    refine Ok.bind (NextPos_ok h1 6 (by omega) (by omega)) fun r2 ⟨h2, a1, a2⟩ => ?_
    simp only
    rw [ej]
    refine Ok.guard (by omega) (Ok.guard hjl (hJ _ h2 ?_))
    have v := i2.ok.val _ (getD_mem (d := default) hjl)
    have ev := i2.ev _ (getD_mem (d := default) hjl)
    exact i2.set hjl rfl ⟨v.now, .inl ⟨a1, by simp only; omega⟩, v.p1, v.p2, v.e1, v.e2⟩ ev
  · rintro ⟨e, l⟩ ⟨i1, i2⟩
    exact Ok.ret ⟨i2, i1⟩
end Go.Dm


/- Plain theory, part 17: room and refusals. -/
namespace Go.Dm

/-- the count of a group, by its place -/
theorem CntOk.at {h : Hierarchy} {l : List Count} (k : CntOk h l) {a : Int} (ha : ∃ n ∈ h.tree.nodes, n.id = a) :
    ∃ i, i < l.length ∧ l.findIdx? (fun c => c.group == a) = some i ∧ getC l a = some (l.getD i default) ∧ (l.getD i default).group = a := by
  rcases idx_cases (fun c : Count => c.group == a) l default with ⟨i, h1, h2, h3⟩ | ⟨h1, h2⟩
  · have := List.find?_some h3
    exact ⟨i, h1, h2, h3, by simpa using this⟩
  · exfalso
    obtain ⟨n, hn, e⟩ := ha
    have : a ∈ l.map (·.group) := by
      rw [k.ids]
      exact List.mem_map.mpr ⟨n, hn, e⟩
    obtain ⟨c, hc, e2⟩ := List.mem_map.mp this
    rw [List.find?_eq_none] at h2
    have := h2 c hc
    simp [e2] at this

theorem CntOk.inj {h : Hierarchy} (w : WfH h) {l : List Count} (k : CntOk h l) {i j : Nat} (hi : i < l.length) (hj : j < l.length) (e : l[i].group = l[j].group) : i = j := by
  have hn := ids_nodup w.tree
  rw [← k.ids] at hn
  unfold List.Nodup at hn
  rw [List.pairwise_map] at hn
  have hp := List.pairwise_iff_getElem.mp hn
  rcases Nat.lt_trichotomy i j with q | q | q
  · exact absurd e (hp i j hi hj q)
  · exact q
  · exact absurd e.symm (hp j i hj hi q)

theorem at_pids_at {l : List Count} {a : Int} {i : Nat} (hl : l.length ≤ 1000000) (h : l.findIdx? (fun c => c.group == a) = some i) : at_pids l a = some (i : Int) := by
  rw [at_pids_eq l a hl, h]
  rfl

/-- a change of one group's count -/
def bumpC (a : Int) (f : Count → Count) (c : Count) : Count := if c.group == a then f c else c
theorem set_bump {h : Hierarchy} (w : WfH h) {l : List Count} (k : CntOk h l) {i : Nat} (hi : i < l.length) {a : Int} (e : (l.getD i default).group = a) (f : Count → Count) :
    l.set i (f (l.getD i default)) = l.map (bumpC a f) := by
  rw [getD_lt hi] at e ⊢
  apply List.ext_getElem
  · simp
  · intro j h1 h2
    have hj : j < l.length := by simpa using h1
    rw [List.getElem_set, List.getElem_map, bumpC]
    by_cases q : i = j
    · subst q
      rw [if_pos rfl, if_pos (by simp [e])]
    · rw [if_neg q, if_neg]
      intro hc
      have hc : l[j].group = a := by simpa using hc
      exact q (k.inj w hi hj (by omega))

/-- a group is full for n more -/
def fullC (l : List Count) (n a : Int) : Bool := decide ((((getC l a).getD default).limit - ((getC l a).getD default).now) < n)

theorem room_val {h : Hierarchy} (w : WfH h) {c : Count} (v : CntV h c) : w64 (c.limit - c.now) = c.limit - c.now := by
  have := v.now
  have := countN_le h c.group
  have := w.len
  rcases v.limit with ⟨a, b⟩ | a
  · exact w64_id (by omega) (by omega)
  · exact w64_id (by omega) (by omega)

theorem up_nodes {t : Tree} (w : WfT t) {g a : Int} (h : a ∈ upT t g) : ∃ n ∈ t.nodes, n.id = a := by
  obtain ⟨x, hx, e⟩ := up_node h
  rw [← e] at h
  exact up_mem w x hx a h

def oneMore (c : Count) : Count := { group := c.group, now := c.now, limit := c.limit, peak := c.peak, events := minI (w64 (c.events + 1)) 1099511627776 }

theorem Refuse_pids_t {h : Hierarchy} (w : WfH h) {l : List Count} (k : CntOk h l) (g n : Int) :
    Refuse_pids h l g n = some (((upT h.tree g).find? (fullC l n)).elim (l, 0) (fun a => (l.map (bumpC a oneMore), a))) := by
  apply Ok.eq
  have hl := k.len
  have l2 := w.tree.len2
  unfold Refuse_pids
  refine Ok.step (Check_pids_t w k) ?_
  simp only [Bool.not_true, Bool.false_eq_true, if_false]
  refine Ok.step (a := l) (by unfold Clone_slices_Count; rw [if_pos (by omega)]) ?_
  refine Ok.step (Ancestors_forest_t w.tree g) ?_
  have hu := upR_length h.tree.nodes.reverse g
  rw [List.length_reverse] at hu
  refine Ok.guard (by unfold upT; omega) ?_
  refine Ok.range (fun pre _ => pre.find? (fullC l n) = none) rfl ?_ ?_
  · intro pre a post _ next he hI hn
    obtain ⟨i, hi, h1, h2, h3⟩ := k.at (up_nodes w.tree (show a ∈ upT h.tree g by rw [he]; simp))
    have v := k.val _ (getD_mem (d := default) hi)
    unfold Refuse_pidsL1
    refine Ok.step (at_pids_at (by omega) h1) ?_
    have ei : Int.toNat (i : Int) = i := by omega
    rw [ei]
    refine Ok.guard (by omega) (Ok.guard hi ?_)
    unfold room_pids
    refine Ok.step rfl ?_
    rw [room_val w v]
    have hf : fullC l n a = decide ((l.getD i default).limit - (l.getD i default).now < n) := by
      unfold fullC
      rw [h2]
      rfl
    refine Ok.ite (fun c => ?_) fun c => ?_
    · refine Ok.guard (by omega) (Ok.guard hi (Ok.guard (by omega) (Ok.guard hi (Ok.ret ?_))))
      have : (upT h.tree g).find? (fullC l n) = some a := by
        rw [he, List.find?_append, hI, List.find?_cons, hf, c]
        rfl
      rw [this]
      have := set_bump w k hi h3 oneMore
      simp only [Option.elim_some]
      rw [← this]
      rfl
    · refine hn () ?_
      rw [List.find?_append, hI, List.find?_cons, hf, c]
      rfl
  · intro _ hI
    refine Ok.ret ?_
    rw [hI]
    rfl

end Go.Dm


/- Plain theory, part 18: sums of counts. -/
namespace Go.Dm

theorem sane_law10_t : sane_law10 = some true := by kernel_rfl

theorem eqCount_refl (c : Count) : eqCount c c = true := by simp [eqCount]

end Go.Dm


/- Plain theory, part 19: charges, limits; the document's functions on counts. -/
namespace Go.Dm

/-- counts of the groups of a tree, whatever they say -/
def CIds (h : Hierarchy) (l : List Count) : Prop := l.map (·.group) = h.tree.nodes.map (·.id)

theorem CIds.len {h : Hierarchy} {l : List Count} (k : CIds h l) : l.length = h.tree.nodes.length := by
  have := congrArg List.length k
  simpa using this
theorem CIds.at {h : Hierarchy} {l : List Count} (k : CIds h l) {a : Int} (ha : ∃ n ∈ h.tree.nodes, n.id = a) :
    ∃ i, i < l.length ∧ l.findIdx? (fun c => c.group == a) = some i ∧ getC l a = some (l.getD i default) ∧ (l.getD i default).group = a := by
  rcases idx_cases (fun c : Count => c.group == a) l default with ⟨i, h1, h2, h3⟩ | ⟨h1, h2⟩
  · have := List.find?_some h3
    exact ⟨i, h1, h2, h3, by simpa using this⟩
  · exfalso
    obtain ⟨n, hn, e⟩ := ha
    have : a ∈ l.map (·.group) := by
      rw [k]
      exact List.mem_map.mpr ⟨n, hn, e⟩
    obtain ⟨c, hc, e2⟩ := List.mem_map.mp this
    rw [List.find?_eq_none] at h2
    have := h2 c hc
    simp [e2] at this
theorem CIds.inj {h : Hierarchy} (w : WfH h) {l : List Count} (k : CIds h l) {i j : Nat} (hi : i < l.length) (hj : j < l.length) (e : l[i].group = l[j].group) : i = j := by
  have hn := ids_nodup w.tree
  rw [← k] at hn
  unfold List.Nodup at hn
  rw [List.pairwise_map] at hn
  have hp := List.pairwise_iff_getElem.mp hn
  rcases Nat.lt_trichotomy i j with q | q | q
  · exact absurd e (hp i j hi hj q)
  · exact q
  · exact absurd e.symm (hp j i hj hi q)
theorem CIds.set {h : Hierarchy} (w : WfH h) {l : List Count} (k : CIds h l) {i : Nat} (hi : i < l.length) {a : Int} (e : (l.getD i default).group = a) (f : Count → Count) :
    l.set i (f (l.getD i default)) = l.map (bumpC a f) := by
  rw [getD_lt hi] at e ⊢
  apply List.ext_getElem
  · simp
  · intro j h1 h2
    have hj : j < l.length := by simpa using h1
    rw [List.getElem_set, List.getElem_map, bumpC]
    by_cases q : i = j
    · subst q
      rw [if_pos rfl, if_pos (by simp [e])]
    · rw [if_neg q, if_neg]
      intro hc
      have hc : l[j].group = a := by simpa using hc
      exact q (k.inj w hi hj (by omega))
theorem CIds.none {h : Hierarchy} {l : List Count} (k : CIds h l) {a : Int} (ha : hasN h.tree a = false) : l.findIdx? (fun c => c.group == a) = none := by
  rw [List.findIdx?_eq_none_iff]
  intro c hc
  have : c.group ∈ l.map (·.group) := List.mem_map.mpr ⟨c, hc, rfl⟩
  rw [k] at this
  obtain ⟨n, hn, e⟩ := List.mem_map.mp this
  by_cases q : c.group = a
  · have := hasN_iff.mpr ⟨n, hn, e.trans q⟩
    rw [this] at ha
    simp at ha
  · simpa using q

theorem CIds.get {h : Hierarchy} (w : WfH h) {l : List Count} (k : CIds h l) {c : Count} (hc : c ∈ l) : getC l c.group = some c := by
  have : c.group ∈ l.map (·.group) := List.mem_map.mpr ⟨c, hc, rfl⟩
  rw [k] at this
  obtain ⟨n, hn, e⟩ := List.mem_map.mp this
  obtain ⟨i, hi, _, h2, h3⟩ := k.at ⟨n, hn, e⟩
  obtain ⟨j, hj, e2⟩ := List.getElem_of_mem hc
  rw [getD_lt hi] at h2 h3
  have := k.inj w hi hj (by rw [h3, e2])
  subst this
  rw [h2, e2]

theorem up_nodup {t : Tree} (w : WfT t) (g : Int) : (upT t g).Nodup := by
  have key : ∀ x ∈ t.nodes, (upT t x.id).Nodup := w.induct fun x hx ih => by
    rw [w.up hx, List.nodup_cons]
    rcases w.p.par x hx with ⟨h1, r⟩ | ⟨_, hlt, ⟨z, hz, e⟩, _⟩
    · rw [r.parent, w.upZero]
      simp
    · have := ih z hz e
      rw [e] at this
      refine ⟨fun hm => ?_, this⟩
      rw [← e] at hm
      have := up_le w z hz _ hm
      omega
  by_cases hg : ∃ x ∈ t.nodes, x.id = g
  · obtain ⟨x, hx, rfl⟩ := hg
    exact key x hx
  · have : upT t g = [] := upR_none fun y hy e => hg ⟨y, by simpa using hy, e⟩
    rw [this]
    simp

/-- a count with more tasks -/
def moreC (n : Int) (c : Count) : Count := { group := c.group, now := w64 (c.now + n), limit := c.limit, peak := maxI c.peak (w64 (c.now + n)), events := c.events }
def chargeC (up : List Int) (n : Int) (c : Count) : Count := if up.contains c.group then moreC n c else c

theorem chargeC_group (up : List Int) (n : Int) (c : Count) : (chargeC up n c).group = c.group := by
  unfold chargeC moreC
  split <;> rfl
theorem CIds.charge {h : Hierarchy} {l : List Count} (k : CIds h l) (up : List Int) (n : Int) : CIds h (l.map (chargeC up n)) := by
  unfold CIds
  rw [List.map_map, ← k]
  exact List.map_congr_left fun c _ => chargeC_group up n c

theorem bump_charge {pre : List Int} {a : Int} (ha : a ∉ pre) (n : Int) (c : Count) : bumpC a (moreC n) (chargeC pre n c) = chargeC (pre ++ [a]) n c := by
  unfold bumpC
  rw [chargeC_group]
  by_cases e : c.group = a
  · have h1 : pre.contains c.group = false := by
      rw [e]
      simpa using ha
    have h2 : (pre ++ [a]).contains c.group = true := by simp [e]
    unfold chargeC
    rw [if_pos (by simpa using e), h1, h2]
    rfl
  · have h2 : (pre ++ [a]).contains c.group = pre.contains c.group := by simp [e]
    unfold chargeC
    rw [if_neg (by simpa using e), h2]

theorem Clone_Count_eq {l : List Count} (hl : l.length ≤ 1000000) : Clone_slices_Count l = some l := by
  unfold Clone_slices_Count
  rw [if_pos (by omega)]

theorem upT_len {t : Tree} (w : WfT t) (g : Int) : (upT t g).length ≤ 64 := by
  have := upR_length t.nodes.reverse g
  have := w.len2
  rw [List.length_reverse] at *
  unfold upT
  omega

theorem charged_pids_t {h : Hierarchy} (w : WfH h) {l : List Count} (k : CIds h l) (g n : Int) : charged_pids h l g n = some (l.map (chargeC (upT h.tree g) n)) := by
  apply Ok.eq
  have hl := k.len
  have l2 := w.tree.len2
  unfold charged_pids
  refine Ok.step (Clone_Count_eq (by omega)) ?_
  refine Ok.step (Ancestors_forest_t w.tree g) ?_
  have hu := upT_len w.tree g
  refine Ok.guard (by omega) ?_
  refine Ok.range (fun pre s => s = l.map (chargeC pre n)) ?_ ?_ ?_
  · have : ∀ c, chargeC [] n c = c := fun c => rfl
    rw [List.map_congr_left (g := id) fun c _ => this c, List.map_id]
  · rintro pre a post s next he rfl hn
    have ks := k.charge pre n
    have hap : a ∉ pre := by
      have := up_nodup w.tree g
      rw [he, List.nodup_append] at this
      intro hm
      exact this.2.2 a hm a (by simp) rfl
    obtain ⟨i, hi, h1, h2, h3⟩ := ks.at (up_nodes w.tree (show a ∈ upT h.tree g by rw [he]; simp))
    have hlen := ks.len
    have fin := ks.set w hi h3 (moreC n)
    rw [List.map_map, List.map_congr_left (f := bumpC a (moreC n) ∘ chargeC pre n) (g := chargeC (pre ++ [a]) n) fun c _ => bump_charge hap n c] at fin
    generalize List.map (chargeC pre n) l = S at *
    unfold charged_pidsL1
    refine Ok.step (at_pids_at (by omega) h1) ?_
    have ei : Int.toNat (i : Int) = i := by omega
    rw [ei]
    have hls : ∀ c, i < (S.set i c).length := fun c => by rw [List.length_set]; exact hi
    refine Ok.guard (by omega) (Ok.guard hi (Ok.guard hi (Ok.guard (hls _) (Ok.guard (hls _) (Ok.guard (hls _) (hn _ ?_))))))
    rw [getD_set_self hi, List.set_set]
    exact fin
  · intro s hs
    exact Ok.ret hs

def roomC (l : List Count) (up : List Int) : Int := maxI (up.foldl (fun s a => minI s (w64 (((getC l a).getD zC).limit - ((getC l a).getD zC).now))) 128) 0

theorem least_pids_t {h : Hierarchy} (w : WfH h) {l : List Count} (k : CIds h l) (g : Int) : least_pids h l g = some (roomC l (upT h.tree g)) := by
  apply Ok.eq
  have hl := k.len
  have l2 := w.tree.len2
  unfold least_pids
  refine Ok.step (Ancestors_forest_t w.tree g) ?_
  have hu := upT_len w.tree g
  refine Ok.guard (by omega) ?_
  refine Ok.range (fun pre s => s = pre.foldl (fun s a => minI s (w64 (((getC l a).getD zC).limit - ((getC l a).getD zC).now))) 128) rfl ?_ ?_
  · rintro pre a post s next he rfl hn
    obtain ⟨i, hi, h1, h2, h3⟩ := k.at (up_nodes w.tree (show a ∈ upT h.tree g by rw [he]; simp))
    unfold least_pidsL1
    refine Ok.step (at_pids_at (by omega) h1) ?_
    have ei : Int.toNat (i : Int) = i := by omega
    rw [ei]
    refine Ok.guard (by omega) ?_
    unfold room_pids
    refine Ok.step rfl (hn _ ?_)
    rw [List.foldl_append, List.foldl_cons, List.foldl_nil, h2]
    rfl
  · rintro s rfl
    exact Ok.ret rfl


theorem Check_ref10_ok {h : Hierarchy} (w : WfH h) (l : List Count) : Ok (Check_ref10 h l) (fun b => b = true ↔ CntOk h l) := by
  have bad : ¬ CntOk h l → Ok (some false) (fun b => b = true ↔ CntOk h l) := fun hn => Ok.ret ⟨fun e => by simp at e, fun w => absurd w hn⟩
  have l1 := w.len
  have l2 := w.tree.len2
  unfold Check_ref10
  refine Ok.step (Check_ref6_t w) ?_
  simp only [Bool.not_true, Bool.false_eq_true, if_false]
  unfold Check_ref10J1
  refine Ok.ite (fun c => ?_) fun c => ?_
  · refine bad fun k => ?_
    have := k.len
    simp [this] at c
  have hlen : l.length = h.tree.nodes.length := by
    have : ((l.length : Nat) : Int) = ((h.tree.nodes.length : Nat) : Int) := by simpa using c
    omega
  refine Ok.guard (by omega) ?_
  refine Ok.range (fun pre _ => pre.map (·.group) = (h.tree.nodes.take pre.length).map (·.id) ∧ ∀ c ∈ pre, CntV h c) (by simp) ?_ ?_
  · intro pre x post _ n he ⟨i1, i2⟩ hn
    have hp : pre.length < h.tree.nodes.length := by rw [← hlen, he]; simp
    have hx : x ∈ l := by rw [he]; simp
    have hgr : CntOk h l → x.group = h.tree.nodes[pre.length].id := fun k => by
      have := congrArg (fun m => m[pre.length]?) k.ids
      simp [hp] at this
      rw [he] at this
      simpa using this
    unfold Check_ref10L1 Check_ref10J4
    refine Ok.guard hp ?_
    rw [getD_lt hp]
    refine Ok.ite (fun c => bad fun k => ?_) fun c0 => ?_
    · have := hgr k
      simp [this] at c
    refine Ok.step (Count_ref6_t w x.group) ?_
    refine Ok.ite (fun c => bad fun k => ?_) fun c1 => ?_
    · have := (k.val x hx).now
      simp [this] at c
    unfold limit_ref10
    refine Ok.step rfl ?_
    refine Ok.ite (fun c => bad fun k => ?_) fun c2 => ?_
    · rcases (k.val x hx).limit with ⟨a, b⟩ | a
      · simp [a, b] at c
      · simp [a] at c
    refine Ok.ite (fun c => bad fun k => ?_) fun c3 => ?_
    · have := (k.val x hx).p1
      have := of_decide_eq_true c
      omega
    refine Ok.ite (fun c => bad fun k => ?_) fun c4 => ?_
    · have := (k.val x hx).p2
      have := of_decide_eq_true c
      omega
    refine Ok.ite (fun c => bad fun k => ?_) fun c5 => ?_
    · have := (k.val x hx).e1
      have := of_decide_eq_true c
      omega
    refine Ok.ite (fun c => bad fun k => ?_) fun c6 => ?_
    · have := (k.val x hx).e2
      have := of_decide_eq_true c
      omega
    have c0 : x.group = h.tree.nodes[pre.length].id := by simpa using c0
    have c1 : x.now = ((countN h x.group : Nat) : Int) := by simpa using c1
    have c3 := of_decide_eq_false c3
    have c4 := of_decide_eq_false c4
    have c5 := of_decide_eq_false c5
    have c6 := of_decide_eq_false c6
    have hv : CntV h x := by
      refine ⟨c1, ?_, by omega, by omega, by omega, by omega⟩
      simp only [Bool.not_eq_false', Bool.or_eq_true, beq_iff_eq, Bool.and_eq_true, decide_eq_true_eq] at c2
      rcases c2 with c2 | ⟨c2, c2'⟩
      · exact .inr c2
      · exact .inl ⟨c2, c2'⟩
    have tk : h.tree.nodes.take (pre ++ [x]).length = h.tree.nodes.take pre.length ++ [h.tree.nodes[pre.length]] := by
      rw [List.length_append, List.length_singleton, List.take_add_one]
      simp [hp]
    refine hn () ⟨?_, ?_⟩
    · rw [tk, List.map_append, List.map_append, i1]
      simp [c0]
    · intro y hy
      rcases List.mem_append.mp hy with hy | hy
      · exact i2 y hy
      · obtain rfl : y = x := by simpa using hy
        exact hv
  · rintro _ ⟨i1, i2⟩
    rw [hlen, List.take_length] at i1
    exact Ok.ret ⟨fun _ => ⟨i1, i2⟩, fun _ => rfl⟩
theorem Check_ref10_t {h : Hierarchy} (w : WfH h) {l : List Count} (k : CntOk h l) : Check_ref10 h l = some true := by
  obtain ⟨b, hb, e⟩ := Check_ref10_ok w l
  rw [hb, e.mpr k]
theorem Check_ref10_f {h : Hierarchy} (w : WfH h) {l : List Count} (k : ¬ CntOk h l) : Check_ref10 h l = some false := by
  obtain ⟨b, hb, e⟩ := Check_ref10_ok w l
  cases b
  · exact hb
  · exact absurd (e.mp rfl) k
theorem Check_pids_f {h : Hierarchy} (w : WfH h) {l : List Count} (k : ¬ CntOk h l) : Check_pids h l = some false := by
  obtain ⟨b, hb, e⟩ := Check_pids_ok w l
  cases b
  · exact hb
  · exact absurd (e.mp rfl) k

theorem at_neg {h : Hierarchy} (w : WfH h) {l : List Count} (k : CIds h l) (g : Int) : Ok (at_pids l g) (fun i => decide (i < 0) = !hasN h.tree g) := by
  have hl := k.len
  have l2 := w.tree.len2
  cases hg : hasN h.tree g with
  | true =>
    obtain ⟨i, hi, h1, _, _⟩ := k.at (hasN_iff.mp hg)
    exact Ok.of_eq (at_pids_at (by omega) h1) (by simp)
  | false =>
    refine Ok.of_eq (at_pids_eq l g (by omega)) ?_
    rw [k.none hg]
    rfl

theorem Room_pids_t {h : Hierarchy} (w : WfH h) {l : List Count} (k : CntOk h l) (g : Int) : Room_pids h l g = some (if hasN h.tree g then roomC l (upT h.tree g) else 0) := by
  apply Ok.eq
  unfold Room_pids
  refine Ok.step (Check_pids_t w k) ?_
  simp only [Bool.not_true, Bool.false_eq_true, if_false]
  refine Ok.bind (at_neg w k.ids g) fun i hi => ?_
  rw [hi]
  unfold Room_pidsJ1
  cases hasN h.tree g with
  | true => exact Ok.step (least_pids_t w k.ids g) (Ok.ret rfl)
  | false => exact Ok.ret rfl
theorem Room_pids_f {h : Hierarchy} (w : WfH h) {l : List Count} (k : ¬ CntOk h l) (g : Int) : Room_pids h l g = some 0 := by
  unfold Room_pids
  rw [Check_pids_f w k]
  rfl
theorem Room_ref10_t {h : Hierarchy} (w : WfH h) {l : List Count} (k : CntOk h l) (g : Int) : Room_ref10 h l g = some (if hasN h.tree g then roomC l (upT h.tree g) else 0) := by
  apply Ok.eq
  have hl := k.len
  have l2 := w.tree.len2
  unfold Room_ref10
  refine Ok.step (Check_ref10_t w k) ?_
  simp only [Bool.not_true, Bool.false_eq_true, if_false]
  refine Ok.step (Has_ref5_t w.tree g) ?_
  unfold Room_ref10J1
  cases hg : hasN h.tree g with
  | false => exact Ok.ret rfl
  | true =>
    refine Ok.step (Ancestors_ref5_t w.tree g) ?_
    rw [ancN, hg]
    have hu := upT_len w.tree g
    refine Ok.guard (by simp only [if_true]; omega) ?_
    refine Ok.range (fun pre s => s = pre.foldl (fun s a => minI s (w64 (((getC l a).getD zC).limit - ((getC l a).getD zC).now))) 128) rfl ?_ ?_
    · rintro pre a post s next he rfl hn
      unfold Room_ref10L1
      refine Ok.step (Get_ref10_eq l a (by omega)) (hn _ ?_)
      rw [List.foldl_append, List.foldl_cons, List.foldl_nil]
      cases getC l a <;> rfl
    · rintro s rfl
      exact Ok.ret rfl
theorem Room_ref10_f {h : Hierarchy} (w : WfH h) {l : List Count} (k : ¬ CntOk h l) (g : Int) : Room_ref10 h l g = some 0 := by
  unfold Room_ref10
  rw [Check_ref10_f w k]
  rfl

def chargeR (h : Hierarchy) (l : List Count) (g n : Int) : List Count × Int :=
  if decide (n < 0) || decide (n > 128) then ([], 1) else if !hasN h.tree g then ([], 4) else if decide (roomC l (upT h.tree g) < n) then ([], 11)
  else (l.map (chargeC (upT h.tree g) n), 0)

theorem Charge_pids_t {h : Hierarchy} (w : WfH h) {l : List Count} (k : CntOk h l) (g n : Int) : Charge_pids h l g n = some (chargeR h l g n) := by
  apply Ok.eq
  unfold Charge_pids chargeR
  refine Ok.step (Check_pids_t w k) ?_
  simp only [Bool.not_true, Bool.false_eq_true, if_false]
  unfold Charge_pidsJ1
  by_cases h1 : n < 0
  · simp only [h1, decide_true, Bool.true_or, if_true]
    exact Ok.ret rfl
  by_cases h2 : n > 128
  · simp only [h1, h2, decide_true, decide_false, Bool.or_true, if_true, Bool.false_eq_true, if_false]
    exact Ok.ret rfl
  simp only [h1, h2, decide_false, Bool.or_false, Bool.false_eq_true, if_false]
  refine Ok.bind (at_neg w k.ids g) fun i hi => ?_
  rw [hi]
  cases hasN h.tree g with
  | false => exact Ok.ret rfl
  | true =>
    simp only [Bool.not_true, Bool.false_eq_true, if_false]
    refine Ok.step (least_pids_t w k.ids g) ?_
    refine Ok.ite (fun c => ?_) fun c => ?_
    · rw [if_pos c]
      exact Ok.ret rfl
    · rw [if_neg (by rw [c]; simp)]
      exact Ok.step (charged_pids_t w k.ids g n) (Ok.ret rfl)
theorem Charge_pids_f {h : Hierarchy} (w : WfH h) {l : List Count} (k : ¬ CntOk h l) (g n : Int) : Charge_pids h l g n = some ([], 1) := by
  unfold Charge_pids
  rw [Check_pids_f w k]
  rfl
theorem Charge_ref10_f {h : Hierarchy} (w : WfH h) {l : List Count} (k : ¬ CntOk h l) (g n : Int) : Charge_ref10 h l g n = some ([], 1) := by
  unfold Charge_ref10
  rw [Check_ref10_f w k]
  rfl
theorem Charge_ref10L3_eq {M M0 : List Count} {m : Nat} (hmM : m < M.length) (n a : Int) (j : Nat) (c : Count) (nx : List Count → Option (List Count × Int)) : Charge_ref10L3 n (M0, (m : Int)) j a (M.set m c) nx = nx (M.set m (bumpC a (moreC n) c)) := by
  have em : Int.toNat (m : Int) = m := by omega
  have hls : ∀ c, m < (M.set m c).length := fun c => by rw [List.length_set]; exact hmM
  have gs : ∀ c, (M.set m c).getD m default = c := fun c => getD_set_self hmM
  unfold Charge_ref10L3 Charge_ref10J7
  simp only
  rw [em, if_pos (by rw [List.length_set]; omega), if_pos (hls _), gs]
  by_cases hc : c.group = a
  · rw [bumpC, if_pos (beq_iff_eq.mpr hc), if_pos (beq_iff_eq.mpr hc)]
    simp only [List.set_set, gs, List.length_set]
    rw [if_pos (by omega), if_pos hmM, if_pos (by omega), if_pos hmM, if_pos (by omega), if_pos hmM, if_pos (by omega), if_pos hmM, if_pos (by omega), if_pos hmM]
    rfl
  · rw [bumpC, if_neg (fun h => hc (beq_iff_eq.mp h)), if_neg (fun h => hc (beq_iff_eq.mp h))]

theorem Charge_ref10_t {h : Hierarchy} (w : WfH h) {l : List Count} (k : CntOk h l) (g n : Int) : Charge_ref10 h l g n = some (chargeR h l g n) := by
  have hl := k.len
  have l2 := w.tree.len2
  apply Ok.eq
  unfold Charge_ref10 chargeR
  refine Ok.step (Check_ref10_t w k) ?_
  simp only [Bool.not_true, Bool.false_eq_true, if_false]
  unfold Charge_ref10J1
  by_cases h1 : n < 0
  · simp only [h1, decide_true, Bool.true_or, if_true]
    exact Ok.ret rfl
  by_cases h2 : n > 128
  · simp only [h1, h2, decide_true, decide_false, Bool.or_true, if_true, Bool.false_eq_true, if_false]
    exact Ok.ret rfl
  simp only [h1, h2, decide_false, Bool.or_false, Bool.false_eq_true, if_false]
  refine Ok.step (Has_ref5_t w.tree g) ?_
  cases hg : hasN h.tree g with
  | false => exact Ok.ret rfl
  | true =>
    simp only [Bool.not_true, Bool.false_eq_true, if_false]
    refine Ok.step (Room_ref10_t w k g) ?_
    rw [hg, if_pos rfl]
    refine Ok.ite (fun c => ?_) fun c => ?_
    · rw [if_pos c]
      exact Ok.ret rfl
    · rw [if_neg (c := decide (roomC l (upT h.tree g) < n) = true) (by rw [c]; simp)]
      refine Ok.guard (by omega) ?_
      refine Ok.step (Ancestors_ref5_t w.tree g) ?_
      have ea : ancN h.tree g = upT h.tree g := by rw [ancN, hg]; rfl
      rw [ea]
      have hu := upT_len w.tree g
      have e := while_map (f := chargeC (upT h.tree g) n) (L := l) (d := default) (body := Charge_ref10L1 n (upT h.tree g)) (ret := fun M => some (M, 0)) (by omega) (fun M m nx hM hm => by
        have em : Int.toNat (m : Int) = m := by omega
        have hmM : m < M.length := by omega
        unfold Charge_ref10L1
        simp only
        rw [if_pos (by simp; omega), if_pos (by omega)]
        have key : ∀ (post pre : List Int) (j : Nat), upT h.tree g = pre ++ post → rangeL (Charge_ref10L3 n (M, (m : Int))) (Charge_ref10D3 (M, (m : Int)) nx) post j (M.set m (chargeC pre n (M.getD m default))) = nx (M.set m (chargeC (upT h.tree g) n (M.getD m default)), ((m + 1 : Nat) : Int)) := by
          intro post
          induction post with
          | nil =>
            intro pre j he
            have : upT h.tree g = pre := by simpa using he
            rw [rangeL, Charge_ref10D3, this]
            simp only
            rw [w64_id (by omega) (by omega)]
            congr 2
          | cons a q ih =>
            intro pre j he
            have hap : a ∉ pre := by
              have := up_nodup w.tree g
              rw [he, List.nodup_append] at this
              intro hm
              exact this.2.2 a hm a (by simp) rfl
            have nexts := ih (pre ++ [a]) (j + 1) (by rw [he]; simp)
            have bc := bump_charge hap n (M.getD m default)
            rw [rangeL, Charge_ref10L3_eq hmM, bc]
            exact nexts
        have := key (upT h.tree g) [] 0 rfl
        have c0 : chargeC [] n (M.getD m default) = M.getD m default := rfl
        rw [c0, set_self hmM] at this
        exact this) (fun M nx hM => by
        unfold Charge_ref10L1
        simp only
        rw [hM, if_neg (by simp)])
      rw [e]
      exact Ok.ret rfl

def setLimC (n : Int) (c : Count) : Count := { group := c.group, now := c.now, limit := n, peak := c.peak, events := c.events }
def isLim (n : Int) : Bool := (n == 4611686018427387904) || (decide (n ≥ 0) && decide (n ≤ 1099511627776))
def limitR (h : Hierarchy) (l : List Count) (g n : Int) : List Count × Int :=
  if !hasN h.tree g then ([], 4) else if !isLim n then ([], 3) else (l.map (bumpC g (setLimC n)), 0)

theorem lim_iff (n : Int) : ((n != 4611686018427387904) && ((decide (n < 0)) || (decide (n > 1099511627776)))) = !isLim n := by
  unfold isLim
  rw [Bool.eq_iff_iff]
  simp only [Bool.and_eq_true, bne_iff_ne, ne_eq, Bool.or_eq_true, decide_eq_true_eq, Bool.not_eq_true', Bool.or_eq_false_iff, beq_eq_false_iff_ne, Bool.and_eq_false_imp, decide_eq_false_iff_not]
  constructor
  · rintro ⟨a, b⟩
    exact ⟨a, fun c => by omega⟩
  · rintro ⟨a, b⟩
    refine ⟨a, ?_⟩
    by_cases c : n < 0
    · exact .inl c
    · exact .inr (by have := b (by omega); omega)

theorem Limit_pids_t {h : Hierarchy} (w : WfH h) {l : List Count} (k : CntOk h l) (g n : Int) : Limit_pids h l g n = some (limitR h l g n) := by
  have hl := k.len
  have l2 := w.tree.len2
  apply Ok.eq
  unfold Limit_pids limitR
  cases hg : hasN h.tree g with
  | false =>
    refine Ok.bind (at_neg w k.ids g) fun i hi => ?_
    refine Ok.step (Check_pids_t w k) ?_
    rw [hi, hg]
    exact Ok.ret rfl
  | true =>
    obtain ⟨i, hi, h1, _, h3⟩ := k.at (hasN_iff.mp hg)
    refine Ok.step (at_pids_at (by omega) h1) ?_
    refine Ok.step (Check_pids_t w k) ?_
    have : decide ((i : Int) < 0) = false := by simp
    rw [this, lim_iff]
    simp only [Bool.not_true, Bool.false_eq_true, if_false]
    refine Ok.ite (fun c => ?_) fun c => ?_
    · rw [if_pos c]
      exact Ok.ret rfl
    · rw [if_neg (by rw [c]; simp)]
      refine Ok.step (Clone_Count_eq (by omega)) ?_
      have ei : Int.toNat (i : Int) = i := by omega
      rw [ei]
      refine Ok.guard (by omega) (Ok.guard hi (Ok.ret ?_))
      rw [← set_bump w k hi h3 (setLimC n)]
      rfl
theorem Limit_pids_f {h : Hierarchy} (w : WfH h) {l : List Count} (hl : l.length ≤ 1000000) (k : ¬ CntOk h l) (g n : Int) : Limit_pids h l g n = some ([], 1) := by
  unfold Limit_pids
  rw [at_pids_eq l g hl, Check_pids_f w k]
  rfl
theorem Limit_ref10_f {h : Hierarchy} (w : WfH h) {l : List Count} (k : ¬ CntOk h l) (g n : Int) : Limit_ref10 h l g n = some ([], 1) := by
  unfold Limit_ref10
  rw [Check_ref10_f w k]
  rfl
theorem Limit_ref10_t {h : Hierarchy} (w : WfH h) {l : List Count} (k : CntOk h l) (g n : Int) : Limit_ref10 h l g n = some (limitR h l g n) := by
  have hl := k.len
  have l2 := w.tree.len2
  apply Ok.eq
  unfold Limit_ref10 limitR
  refine Ok.step (Check_ref10_t w k) ?_
  simp only [Bool.not_true, Bool.false_eq_true, if_false]
  refine Ok.step (Has_ref5_t w.tree g) ?_
  cases hg : hasN h.tree g with
  | false => exact Ok.ret rfl
  | true =>
    simp only [Bool.not_true, Bool.false_eq_true, if_false]
    refine Ok.step (a := isLim n) rfl ?_
    refine Ok.ite (fun c => ?_) fun c => ?_
    · rw [if_pos c]
      exact Ok.ret rfl
    · rw [if_neg (c := (!isLim n) = true) (by rw [c]; simp)]
      refine Ok.guard (by omega) ?_
      have e := while_map (f := bumpC g (setLimC n)) (L := l) (d := default) (body := Limit_ref10L1 g n) (ret := fun M => some (M, 0)) (by omega) (fun M m nx hM hm => by
        unfold Limit_ref10L1 Limit_ref10J2
        simp only
        have em : Int.toNat (m : Int) = m := by omega
        rw [em, if_pos (by simp; omega), if_pos (by omega), if_pos (by omega), w64_id (by omega) (by omega)]
        have ew : (m : Int) + 1 = ((m + 1 : Nat) : Int) := by omega
        rw [ew]
        by_cases hc : (M.getD m default).group = g
        · rw [if_pos (by rw [hc]; simp), if_pos (by omega), if_pos (by omega), bumpC, if_pos (by rw [hc]; simp)]
          rfl
        · have hc' : ((M.getD m default).group == g) = false := by simpa using hc
          rw [if_neg (by rw [hc']; simp), bumpC, if_neg (by rw [hc']; simp), set_self (by omega)]) (fun M nx hM => by
        unfold Limit_ref10L1
        simp only
        rw [hM, if_neg (by simp)])
      rw [e]
      exact Ok.ret rfl

theorem Refuse_pids_f {h : Hierarchy} (w : WfH h) {l : List Count} (k : ¬ CntOk h l) (g n : Int) : Refuse_pids h l g n = some ([], 0) := by
  unfold Refuse_pids
  rw [Check_pids_f w k]
  rfl
theorem Refuse_ref10_f {h : Hierarchy} (w : WfH h) {l : List Count} (k : ¬ CntOk h l) (g n : Int) : Refuse_ref10 h l g n = some ([], 0) := by
  unfold Refuse_ref10
  rw [Check_ref10_f w k]
  rfl
theorem Refuse_ref10_t {h : Hierarchy} (w : WfH h) {l : List Count} (k : CntOk h l) (g n : Int) :
    Refuse_ref10 h l g n = some (((upT h.tree g).find? (fullC l n)).elim (l, 0) (fun a => (l.map (bumpC a oneMore), a))) := by
  apply Ok.eq
  have hl := k.len
  have l2 := w.tree.len2
  unfold Refuse_ref10
  refine Ok.step (Check_ref10_t w k) ?_
  simp only [Bool.not_true, Bool.false_eq_true, if_false]
  refine Ok.guard (by omega) ?_
  refine Ok.step (Ancestors_ref5_t w.tree g) ?_
  have ea : ancN h.tree g = upT h.tree g := by
    unfold ancN
    cases hg : hasN h.tree g with
    | true => rfl
    | false =>
      have : upT h.tree g = [] := upR_none fun y hy e => by
        have := hasN_iff.mpr ⟨y, by simpa using hy, e⟩
        rw [hg] at this
        simp at this
      rw [this]
      rfl
  rw [ea]
  have hu := upT_len w.tree g
  refine Ok.guard (by omega) ?_
  refine Ok.range (fun pre _ => pre.find? (fullC l n) = none) rfl ?_ ?_
  · intro pre a post _ next he hI hn
    obtain ⟨i, hi, h1, h2, h3⟩ := k.at (up_nodes w.tree (show a ∈ upT h.tree g by rw [he]; simp))
    unfold Refuse_ref10L1
    refine Ok.guard (by omega) ?_
    have hf : fullC l n a = decide ((l.getD i default).limit - (l.getD i default).now < n) := by
      unfold fullC
      rw [h2]
      rfl
    refine Ok.range (fun p _ => ∀ c ∈ p, c.group = a → fullC l n a = false) (by simp) ?_ ?_
    · intro p c q _ nx he2 hJ hnx
      have hc : c ∈ l := by rw [he2]; simp
      have hpl : p.length < l.length := by rw [he2]; simp
      have hci : l[p.length] = c := by simp [he2]
      have v := k.val c hc
      have same : c.group = a → p.length = i := fun e => k.inj w hpl hi (by rw [hci, e, ← getD_lt (d := default) hi, h3])
      unfold Refuse_ref10L4
      rw [room_val w v]
      refine Ok.ite (fun cc => ?_) fun cc => ?_
      · simp only [Bool.and_eq_true, beq_iff_eq, decide_eq_true_eq] at cc
        have hpi := same cc.1
        have hdi : l.getD i default = c := by rw [getD_lt hi, ← hci]; simp [hpi]
        refine Ok.guard (by rw [List.length_set]; exact hpl) (Ok.ret ?_)
        have hfull : fullC l n a = true := by
          rw [hf, hdi]
          simpa using cc.2
        have : (upT h.tree g).find? (fullC l n) = some a := by
          rw [he, List.find?_append, hI, List.find?_cons, hfull]
          rfl
        rw [this]
        simp only [Option.elim_some]
        rw [getD_set_self hpl]
        have fin := set_bump w k hi h3 oneMore
        rw [hdi] at fin
        rw [← fin, hpi]
        show (l.set i (oneMore c), c.group) = (l.set i (oneMore c), a)
        rw [cc.1]
      · refine hnx () ?_
        intro d hd hda
        rcases List.mem_append.mp hd with hd | hd
        · exact hJ d hd hda
        · obtain rfl : d = c := by simpa using hd
          have hpi := same hda
          have hdi : l.getD i default = d := by rw [getD_lt hi, ← hci]; simp [hpi]
          rw [hf, hdi]
          have : (d.group == a) = true := by simpa using hda
          rw [this] at cc
          simpa using cc
    · intro _ hJ
      refine hn () ?_
      have hfull : fullC l n a = false := hJ _ (getD_mem (d := default) hi) h3
      rw [List.find?_append, hI, List.find?_cons, hfull]
      rfl
  · intro _ hI
    refine Ok.ret ?_
    rw [hI]
    rfl

theorem Same_ref10_refl (l : List Count) (hl : l.length ≤ 1000000) : Same_ref10 l l = some true := by
  apply Ok.eq
  unfold Same_ref10
  refine Ok.ite (fun c => by simp at c) fun _ => ?_
  refine Ok.guard (by omega) ?_
  refine Ok.range (fun _ _ => True) trivial ?_ fun _ _ => Ok.ret rfl
  intro pre x post _ n he _ hn
  have hp : pre.length < l.length := by rw [he]; simp
  have hx : l.getD pre.length default = x := by rw [he]; exact getD_pre
  unfold Same_ref10L1
  refine Ok.guard hp ?_
  rw [hx, eqCount_refl]
  exact hn () trivial

theorem odd_ok {d : Dice} (hd : DiceOk d) (l : List Count) (hl : l.length ≤ 1000000) : Ok (odd_law10 d l) (fun r => r.1.length ≤ l.length ∧ DiceOk r.2) := by
  unfold odd_law10
  refine Ok.guard (by omega) ?_
  refine Ok.ite (fun _ => Ok.ret ⟨Nat.le_refl _, hd⟩) fun c => ?_
  have h0 : 0 < l.length := by
    have : ¬ ((l.length : Nat) : Int) = 0 := by simpa using c
    omega
  refine Ok.bind (NextPos_ok hd _ (by omega) (by omega)) fun a ⟨ha1, ha2, ha3⟩ => Ok.guard ⟨ha2, ha3⟩ ?_
  have hi : a.1.toNat < l.length := by omega
  refine Ok.bind (NextPos_ok ha1 6 (by omega) (by omega)) fun b ⟨hb1, hb2, hb3⟩ => ?_
  unfold odd_law10J1
  refine Ok.ite (fun _ => Ok.guard hi (Ok.guard hi (Ok.ret ⟨by simp, hb1⟩))) fun _ => ?_
  refine Ok.ite (fun _ => Ok.guard hi (Ok.guard hi (Ok.ret ⟨by simp, hb1⟩))) fun _ => ?_
  refine Ok.ite (fun _ => ?_) fun _ => ?_
  · refine Ok.bind (NextPos_ok hb1 3 (by omega) (by omega)) fun c ⟨hc1, hc2, hc3⟩ => ?_
    exact Ok.guard ⟨hc2, hc3⟩ (Ok.guard (by simp only [List.length_cons, List.length_nil]; omega) (Ok.guard hi (Ok.ret ⟨by simp, hc1⟩)))
  refine Ok.ite (fun _ => ?_) fun _ => ?_
  · refine Ok.guard hi ?_
    refine Ok.bind (NextPos_ok hb1 3 (by omega) (by omega)) fun c ⟨hc1, hc2, hc3⟩ => ?_
    exact Ok.guard ⟨hc2, hc3⟩ (Ok.guard (by simp only [List.length_cons, List.length_nil]; omega) (Ok.guard hi (Ok.ret ⟨by simp, hc1⟩)))
  refine Ok.ite (fun _ => ?_) fun _ => ?_
  · refine Ok.bind (NextPos_ok hb1 3 (by omega) (by omega)) fun c ⟨hc1, hc2, hc3⟩ => ?_
    exact Ok.guard ⟨hc2, hc3⟩ (Ok.guard (by simp only [List.length_cons, List.length_nil]; omega) (Ok.guard hi (Ok.ret ⟨by simp, hc1⟩)))
  refine Ok.ite (fun _ => Ok.guard (by omega) (Ok.ret ⟨by simp only [List.length_take, List.length_drop]; omega, hb1⟩)) fun _ => Ok.ret ⟨Nat.le_refl _, hb1⟩
end Go.Dm


/- The law PidsCounts, on the model. -/
namespace Go.Dm

theorem pidsCounts_ok (l : List Int) (gr nn : Int) : Ok (PidsCounts_law10 l gr nn) (· = true) := by
  have sane : ∀ {f : Bool → Option Bool}, f true = some true → Ok (Option.bind sane_law10 f) (· = true) := fun h => Ok.step sane_law10_t (Ok.of_eq h rfl)
  unfold PidsCounts_law10 Light_made
  refine Ok.step rfl ?_
  refine Ok.ite (fun _ => sane rfl) fun c => ?_
  have hl : l.length ≤ 600 := by
    have : ((l.length : Nat) : Int) ≤ 600 := by simpa using c
    omega
  refine Ok.step (a := { l := l, atF := 0 }) rfl ?_
  refine Ok.bind (Hierarchy_ok (dice_roll hl) 6 8 (by omega) (by omega) (by omega) (by omega)) fun r ⟨w, hd⟩ => ?_
  refine Ok.bind (counts_ok hd w) fun s ⟨m, hd2⟩ => ?_
  have h1 := w.len
  have h2 := w.tree.len2
  have h3 := w.tree.len1
  have hlen := m.ok.len
  refine Ok.bind (odd_ok hd2 s.1 (by omega)) fun o ⟨ho, hd3⟩ => ?_
  refine Ok.guard (by simp) ?_
  refine Ok.range (fun _ d => DiceOk d) hd3 ?_ ?_
  · intro pre x post d n he hd hn
    have hx : x ∈ [s.1, o.1] := by rw [he]; simp
    have hxl : x.length ≤ 64 := by
      simp only [List.mem_cons, List.not_mem_nil, or_false] at hx
      rcases hx with rfl | rfl <;> omega
    clear he hx
    unfold PidsCounts_law10L1
    have hchk : ∃ b, Check_pids r.1 x = some b ∧ Check_ref10 r.1 x = some b := by
      by_cases k : CntOk r.1 x
      · exact ⟨true, Check_pids_t w k, Check_ref10_t w k⟩
      · exact ⟨false, Check_pids_f w k, Check_ref10_f w k⟩
    obtain ⟨b, hb1, hb2⟩ := hchk
    refine Ok.step hb1 (Ok.step hb2 ?_)
    refine Ok.ite (fun c => by simp at c) fun _ => ?_
    refine Ok.bind (Group_ok hd r.1.tree (by omega)) fun g1 hd => ?_
    refine Ok.bind (Group_ok hd r.1.tree (by omega)) fun g2 hd => ?_
    refine Ok.guard (by simp) ?_
    refine Ok.range (fun _ d => DiceOk d) hd ?_ ?_
    · intro _ g _ d nx _ hd hnx
      unfold PidsCounts_law10L10
      refine Ok.bind (Next_ok hd 6 (by omega)) fun z ⟨hd, _⟩ => ?_
      refine Ok.for (fun _ _ => True) trivial ?_ ?_
      · intro j _ ny hj _ hny
        have hj3 : j < 3 := hj
        unfold PidsCounts_law10L13
        have e0 : (0 : Int) + (j : Int) = (j : Int) := by omega
        rw [e0, show Int.toNat (j : Int) = j by omega]
        refine Ok.guard (by simp only [List.length_cons, List.length_nil]; omega) (Ok.guard (by simp only [List.length_cons, List.length_nil]; omega) ?_)
        generalize [nn, z.1, 4611686018427387904].getD j 0 = v
        have hlim : ∃ q, Limit_pids r.1 x g v = some q ∧ Limit_ref10 r.1 x g v = some q ∧ q.1.length ≤ 64 := by
          by_cases k : CntOk r.1 x
          · refine ⟨_, Limit_pids_t w k g v, Limit_ref10_t w k g v, ?_⟩
            unfold limitR
            split
            · simp
            · split
              · simp
              · simpa using hxl
          · exact ⟨_, Limit_pids_f w (by omega) k g v, Limit_ref10_f w k g v, by simp⟩
        have hchg : ∃ q, Charge_pids r.1 x g v = some q ∧ Charge_ref10 r.1 x g v = some q ∧ q.1.length ≤ 64 := by
          by_cases k : CntOk r.1 x
          · refine ⟨_, Charge_pids_t w k g v, Charge_ref10_t w k g v, ?_⟩
            unfold chargeR
            split
            · simp
            · split
              · simp
              · split
                · simp
                · simpa using hxl
          · exact ⟨_, Charge_pids_f w k g v, Charge_ref10_f w k g v, by simp⟩
        have href : ∃ q, Refuse_pids r.1 x g v = some q ∧ Refuse_ref10 r.1 x g v = some q ∧ q.1.length ≤ 64 := by
          by_cases k : CntOk r.1 x
          · refine ⟨_, Refuse_pids_t w k g v, Refuse_ref10_t w k g v, ?_⟩
            cases (upT r.1.tree g).find? (fullC x v)
            · exact hxl
            · simpa using hxl
          · exact ⟨_, Refuse_pids_f w k g v, Refuse_ref10_f w k g v, by simp⟩
        obtain ⟨a, a1, a2, a3⟩ := hlim
        obtain ⟨b, b1, b2, b3⟩ := hchg
        obtain ⟨c, c1, c2, c3⟩ := href
        refine Ok.step a1 (Ok.step a2 (Ok.step b1 (Ok.step b2 (Ok.step c1 (Ok.step c2 ?_)))))
        unfold PidsCounts_law10J52
        refine Ok.ite (fun c => by simp at c) fun _ => ?_
        refine Ok.ite (fun c => by simp at c) fun _ => ?_
        refine Ok.ite (fun c => by simp at c) fun _ => ?_
        refine Ok.step (Same_ref10_refl _ (by omega)) ?_
        refine Ok.step (Same_ref10_refl _ (by omega)) ?_
        refine Ok.step (Same_ref10_refl _ (by omega)) ?_
        exact hny () trivial
      · intro _ _
        unfold PidsCounts_law10D13 PidsCounts_law10J53
        refine Ok.step (Get_pids_eq x g (by omega)) (Ok.step (Get_ref10_eq x g (by omega)) ?_)
        refine Ok.ite (fun c => by rw [eqCount_refl] at c; simp at c) fun _ => ?_
        refine Ok.ite (fun c => by simp at c) fun _ => ?_
        have hroom : ∃ q, Room_pids r.1 x g = some q ∧ Room_ref10 r.1 x g = some q := by
          by_cases k : CntOk r.1 x
          · exact ⟨_, Room_pids_t w k g, Room_ref10_t w k g⟩
          · exact ⟨_, Room_pids_f w k g, Room_ref10_f w k g⟩
        obtain ⟨q, q1, q2⟩ := hroom
        refine Ok.step q1 (Ok.step q2 ?_)
        refine Ok.ite (fun c => by simp at c) fun _ => hnx _ hd
    · intro d hd
      unfold PidsCounts_law10D10
      refine Ok.bind (Hierarchy_ok hd 5 6 (by omega) (by omega) (by omega) (by omega)) fun y ⟨wy, hd⟩ => ?_
      refine Ok.step (Adjust_pids_t wy (by omega)) (Ok.step (Adjust_ref10_t wy (by omega)) ?_)
      have := wy.tree.len2
      refine Ok.step (Same_ref10_refl _ (by simp; omega)) ?_
      exact hn _ hd
  · intro d hd
    unfold PidsCounts_law10D1
    refine Ok.step (New_pids_t w) (Ok.step (New_ref10_t w) ?_)
    refine Ok.step (Same_ref10_refl _ (by simp; omega)) ?_
    exact sane rfl

theorem pidsCounts_true (l : List Int) (g n : Int) (_ : ∀ n ∈ l, -9223372036854775808 ≤ n ∧ n ≤ 9223372036854775807) (_ : IntKind.i64.min ≤ g) (_ : g ≤ IntKind.i64.max) (_ : IntKind.i64.min ≤ n) (_ : n ≤ IntKind.i64.max) : PidsCounts_law10 l g n = some true := (pidsCounts_ok l g n).eq
end Go.Dm


/- Models of Go types and functions, printed by a program. -/
namespace Go.Dm
set_option linter.unusedVariables false

end Go.Dm


/- The data machine, part 24: states by their changes; shorter words for the printed proofs. -/
namespace Go.Dm

def memN : List Nat → Nat → Bool
  | [], _ => false
  | a :: r, k => bif Nat.beq a k then true else memN r k
def delK {α : Type} (ds : List Nat) : List (Nat × α) → List (Nat × α)
  | [] => []
  | (k, x) :: r => bif memN ds k then delK ds r else (k, x) :: delK ds r
def insK {α : Type} (k : Nat) (x : α) : List (Nat × α) → List (Nat × α)
  | [] => [(k, x)]
  | (t, y) :: r => bif Nat.beq k t then (k, x) :: r else bif Nat.ble k t then (k, x) :: (t, y) :: r else (t, y) :: insK k x r
def insA {α : Type} : List (Nat × α) → List (Nat × α) → List (Nat × α)
  | [], l => l
  | (k, x) :: r, l => insK k x (insA r l)
/-- a list without some keys, with others changed -/
def up {α : Type} (ds : List Nat) (us l : List (Nat × α)) : List (Nat × α) := insA us (delK ds l)

section
variable {P : Program} {T : Ty} {cx : Cx} {σ : St} {Q : Exit → St → Prop} {R : Type}

theorem DW.rd {nt : Nat} (hT : TyGood P T) (hm : P.follows .mixedOrders = true) (hnt : cx.nt = nt) {ops : Array Oper} {id : Nat} {draw : Bool} {r : List Code} {sl0 : List (Nat × MV)} {ob0 : List (Nat × Obj)} (xs : List Orc) (ds : List Nat) (us : List (Nat × MV)) (dk : List Nat) (uo : List (Nat × Obj))
    {q : Prop} (hq : q) (hQ : DW P cx r (mkSt (up ds us sl0) (up dk uo ob0)) Q) (h : dregQ P T nt ops xs (keysW (up ds us sl0)) (keysW (up dk uo ob0)) draw (mkSt sl0 ob0) = some ((up ds us sl0, up dk uo ob0), q)) : DW P cx (.region id ops draw :: r) (mkSt sl0 ob0) Q :=
  DW.rk hT hm hnt xs _ _ hq h hQ

theorem Conv.eqK {sl0 sl : List (Nat × MV)} {ob0 ob : List (Nat × Obj)} (h : (sl0, ob0) = (sl, ob) := by kernel_rfl) : Conv cx (mkSt sl0 ob0) (mkSt sl ob) := by
  obtain ⟨rfl, rfl⟩ := Prod.mk.inj h
  exact .refl

theorem Conv.t0 {sl : List (Nat × MV)} {ob : List (Nat × Obj)} (h : (normSl (keysW sl) (keysW ob) σ, normOb (keysW ob) σ) = (patchS [] sl, patchO [] ob) := by kernel_rfl) : Conv cx σ (mkSt sl ob) := Conv.tp [] [] h .nil .nil

theorem condM {c : Operand} {x y : Code} {r : List Code} {b : Bool} {X Y : Option R} {res : R} (hm : (if b = true then X else Y) = some res) (h1 : b = true → X = some res → DW P cx (x :: r) σ Q) (h2 : b = false → Y = some res → DW P cx (y :: r) σ Q)
    (hk : constOK c = true := by kernel_rfl) (hc : ev σ c = .p (.v (.bool b)) := by kernel_rfl) : DW P cx (.cond c x y :: r) σ Q :=
  DW.cond b hk hc (fun e => h1 e (if_t e hm)) (fun e => h2 e (if_f e hm))
theorem condK {c : Operand} {x y : Code} {r : List Code} (b : Bool) (h1 : b = true → DW P cx (x :: r) σ Q) (h2 : b = false → DW P cx (y :: r) σ Q)
    (hk : constOK c = true := by kernel_rfl) (hc : ev σ c = .p (.v (.bool b)) := by kernel_rfl) : DW P cx (.cond c x y :: r) σ Q := DW.cond b hk hc h1 h2
theorem condT {c : Operand} {x y : Code} {r : List Code} {b : Bool} (hb : b = true) (h1 : DW P cx (x :: r) σ Q)
    (hk : constOK c = true := by kernel_rfl) (hc : ev σ c = .p (.v (.bool b)) := by kernel_rfl) : DW P cx (.cond c x y :: r) σ Q := DW.cond b hk hc (fun _ => h1) (fun e => by rw [hb] at e; cases e)
theorem condF {c : Operand} {x y : Code} {r : List Code} {b : Bool} (hb : b = false) (h1 : DW P cx (y :: r) σ Q)
    (hk : constOK c = true := by kernel_rfl) (hc : ev σ c = .p (.v (.bool b)) := by kernel_rfl) : DW P cx (.cond c x y :: r) σ Q := DW.cond b hk hc (fun e => by rw [hb] at e; cases e) (fun _ => h1)

theorem retK {results : List ResultVar} {m : Nat} {res : MV} {bs : List Body} (bs' : List Body) (ex : List Nat) (res' : MV) (h : fin T results m ex σ = some (res', bs') := by kernel_rfl) (e : res' = res := by rfl) (e2 : bs' = bs := by rfl) : finQ T results m res bs .ret σ := retOK ex res' h e e2
theorem go2 {p q : Prop} [Decidable p] [Decidable q] {x : Option R} {r : R} (h : (if p then if q then x else none else none) = some r) : p ∧ q ∧ x = some r := ⟨(guard_open h).1, guard_open (guard_open h).2⟩
theorem go3 {p q s : Prop} [Decidable p] [Decidable q] [Decidable s] {x : Option R} {r : R} (h : (if p then if q then if s then x else none else none else none) = some r) : p ∧ q ∧ s ∧ x = some r := ⟨(guard_open h).1, go2 (guard_open h).2⟩
theorem go4 {p q s t : Prop} [Decidable p] [Decidable q] [Decidable s] [Decidable t] {x : Option R} {r : R} (h : (if p then if q then if s then if t then x else none else none else none else none) = some r) : p ∧ q ∧ s ∧ t ∧ x = some r := ⟨(guard_open h).1, go3 (guard_open h).2⟩
end
end Go.Dm


/- Types of the program. -/
namespace Go.Dm
open Go.Proofs
set_option linter.unusedVariables false
def Tt : Ty := [(3, ⟨.int .i64, 1, 8, [.int .i64 0], false⟩),
  (4, ⟨.bool, 1, 1, [.bool false], false⟩),
  (5, ⟨.int .u8, 1, 1, [.int .u8 0], false⟩),
  (9, ⟨.str, 1, 16, [.string ByteArray.empty], false⟩),
  (22, ⟨.slice 3, 1, 24, [.slice none 0 0], false⟩),
  (27, ⟨.slice 37, 1, 24, [.slice none 0 0], false⟩),
  (29, ⟨.struct [(0, 27), (1, 3)], 2, 32, [.slice none 0 0, .int .i64 0], false⟩),
  (30, ⟨.slice 61, 1, 24, [.slice none 0 0], false⟩),
  (32, ⟨.struct [(0, 29), (2, 30), (3, 3)], 4, 64, [.slice none 0 0, .int .i64 0, .slice none 0 0, .int .i64 0], false⟩),
  (34, ⟨.slice 43, 1, 24, [.slice none 0 0], false⟩),
  (37, ⟨.struct [(0, 3), (1, 3), (2, 9), (3, 3), (4, 3), (5, 3)], 6, 56, [.int .i64 0, .int .i64 0, .string ByteArray.empty, .int .i64 0, .int .i64 0, .int .i64 0], false⟩),
  (43, ⟨.struct [(0, 3), (1, 3), (2, 3), (3, 3), (4, 3)], 5, 40, [.int .i64 0, .int .i64 0, .int .i64 0, .int .i64 0, .int .i64 0], true⟩),
  (50, ⟨.int .i64, 1, 8, [.int .i64 0], false⟩),
  (55, ⟨.slice 34, 1, 24, [.slice none 0 0], false⟩),
  (61, ⟨.struct [(0, 3), (1, 3), (2, 3), (3, 3)], 4, 32, [.int .i64 0, .int .i64 0, .int .i64 0, .int .i64 0], false⟩),
  (88, ⟨.struct [(0, 22), (1, 3)], 2, 32, [.slice none 0 0, .int .i64 0], false⟩),
  (134, ⟨.slice 9, 1, 24, [.slice none 0 0], false⟩),
  (135, ⟨.map 3 3, 1, 8, [(.map none)], false⟩),
  (145, ⟨.slice 5, 1, 24, [.slice none 0 0], false⟩)]
theorem Tgood : TyGood Tryz.prog Tt := tyGood_of ⟨⟨⟨by kernel_rfl, by kernel_rfl⟩, trivial⟩, ⟨⟨by kernel_rfl, by kernel_rfl⟩, trivial⟩, ⟨⟨by kernel_rfl, by kernel_rfl⟩, trivial⟩, ⟨⟨by kernel_rfl, by kernel_rfl⟩, trivial⟩, ⟨⟨by kernel_rfl, by kernel_rfl⟩, trivial⟩, ⟨⟨by kernel_rfl, by kernel_rfl⟩, trivial⟩, ⟨⟨by kernel_rfl, by kernel_rfl⟩, trivial⟩, ⟨⟨by kernel_rfl, by kernel_rfl⟩, trivial⟩, ⟨⟨by kernel_rfl, by kernel_rfl⟩, trivial⟩, ⟨⟨by kernel_rfl, by kernel_rfl⟩, trivial⟩, ⟨⟨by kernel_rfl, by kernel_rfl⟩, trivial⟩, ⟨⟨by kernel_rfl, by kernel_rfl⟩, ⟨by kernel_rfl, by kernel_rfl, by kernel_rfl⟩⟩, ⟨⟨by kernel_rfl, by kernel_rfl⟩, trivial⟩, ⟨⟨by kernel_rfl, by kernel_rfl⟩, trivial⟩, ⟨⟨by kernel_rfl, by kernel_rfl⟩, trivial⟩, ⟨⟨by kernel_rfl, by kernel_rfl⟩, trivial⟩, ⟨⟨by kernel_rfl, by kernel_rfl⟩, trivial⟩, ⟨⟨by kernel_rfl, by kernel_rfl⟩, trivial⟩, ⟨⟨by kernel_rfl, by kernel_rfl⟩, trivial⟩, trivial⟩ (by kernel_rfl) (by kernel_rfl)
theorem mixed : Tryz.prog.follows .mixedOrders = true := by kernel_rfl
theorem RK {cx : Cx} {σ : St} {Q : Exit → St → Prop} {nt : Nat} (hnt : cx.nt = nt) {ops : Array Oper} {id : Nat} {draw : Bool} {r : List Code} (xs : List Orc) (sl : List (Nat × MV)) (ob : List (Nat × Obj))
    {q : Prop} (hq : q) (hQ : DW Tryz.prog cx r (mkSt sl ob) Q) (h : dregQ Tryz.prog Tt nt ops xs (keysW sl) (keysW ob) draw σ = some ((sl, ob), q) := by kernel_rfl) : DW Tryz.prog cx (.region id ops draw :: r) σ Q := DW.rk Tgood mixed hnt xs sl ob hq h hQ
theorem RD {cx : Cx} {Q : Exit → St → Prop} {nt : Nat} (hnt : cx.nt = nt) {ops : Array Oper} {id : Nat} {draw : Bool} {r : List Code} {sl0 : List (Nat × MV)} {ob0 : List (Nat × Obj)} (xs : List Orc) (ds : List Nat) (us : List (Nat × MV)) (dk : List Nat) (uo : List (Nat × Obj))
    {q : Prop} (hq : q) (hQ : DW Tryz.prog cx r (mkSt (up ds us sl0) (up dk uo ob0)) Q) (h : dregQ Tryz.prog Tt nt ops xs (keysW (up ds us sl0)) (keysW (up dk uo ob0)) draw (mkSt sl0 ob0) = some ((up ds us sl0, up dk uo ob0), q) := by kernel_rfl) : DW Tryz.prog cx (.region id ops draw :: r) (mkSt sl0 ob0) Q := DW.rd Tgood mixed hnt xs ds us dk uo hq hQ h
theorem SO {f : FuncId} {fn : Func} {c : Code} (hf : Tryz.prog.funcs[f]? = some fn) (hb : fn.body = some c)
    {args : List MV} {outs : List Body} {res : MV} {outs' news : List Body} (hlen : outs'.length = outs.length)
    (sl : List (Nat × MV)) (ob : List (Nat × Obj)) (hd : ∀ cx : Cx, cx.nt = fn.ntmps → DW Tryz.prog cx [c] (mkSt sl ob) (finQ Tt fn.results.toList outs.length res (outs' ++ news)))
    (hname : fn.name ≠ "runtime.NumGoroutine" := by decide) (hle : Nat.ble args.length fn.ntmps = true := by rfl) (hm : Nat.ble outs.length 1000 = true := by rfl)
    (h1 : normSl (upN args.length 0) (upN outs.length 0) ⟨fun t => (args[t]?).getD .any, objsL outs⟩ = sl := by kernel_rfl)
    (h2 : normOb (upN outs.length 0) ⟨fun t => (args[t]?).getD .any, objsL outs⟩ = ob := by kernel_rfl) :
    Spec Tryz.prog f args outs res outs' news := spec_of Tgood hf hname hb hlen (Nat.le_of_ble_eq_true hle) (Nat.le_of_ble_eq_true hm) h1 h2 fun cx hnt => DW.start (hd cx hnt)
theorem RN {cx : Cx} {σ : St} {Q : Exit → St → Prop} {nt : Nat} (hnt : cx.nt = nt) {ops : Array Oper} {id : Nat} {draw : Bool} {r : List Code} (xs : List Orc) (sl : List (Nat × MV)) (ob : List (Nat × Obj))
    (ps : List (Nat × MV)) (qs : List (Nat × Body)) {q : Prop} (hq : q) (h : dregQ Tryz.prog Tt nt ops xs (keysW sl) (keysW ob) draw σ = some ((patchS ps sl, patchO qs ob), q)) (hs : SP sl ps) (ho : OP ob qs)
    (hQ : DW Tryz.prog cx r (mkSt sl ob) Q) : DW Tryz.prog cx (.region id ops draw :: r) σ Q := DW.rn Tgood mixed hnt xs sl ob ps qs hq h hs ho hQ
theorem RT {cx : Cx} {σ : St} {nt : Nat} (hnt : cx.nt = nt) {ops : Array Oper} {draw : Bool} {sl : List (Nat × MV)} {ob : List (Nat × Obj)} (xs : List Orc)
    (ps : List (Nat × MV)) {q : Prop} (hq : q) (h : dregQ Tryz.prog Tt nt ops xs (keysW sl) (keysW ob) draw σ = some ((patchS ps sl, ob), q)) (hs : SP sl ps) : RegTo Tryz.prog cx ops draw σ sl ob := RegTo.rn Tgood mixed hnt xs ps hq h hs
end Go.Dm


/- Go functions compute their models, printed by a program. -/
namespace Go.Dm
open Go.Proofs
set_option linter.unusedVariables false
theorem Light_madeSpec (p0 : List Int) (RES : Bool) (hm : Light_made p0 = some RES) : Spec Tryz.prog 14 [.p (slI p0)] [] (pB RES) [] [] := by
 unfold Light_made at hm
 refine SO Tryz.func14 rfl rfl [(0, .p (slI p0))] [] ?_
 intro cx hnt
 refine DW.seq (RK hnt (.no :: []) [(0, .p (slI p0))] [] trivial ?_)
 refine DW.seq (RK hnt (nn 4 []) [(2, pB (decide (((p0.length : Nat) : Int) ≤ 600)))] [] trivial ?_)
 refine DW.ret ?_
 obtain rfl := Option.some.inj hm
 exact retK [] [] (pB (decide (((p0.length : Nat) : Int) ≤ 600)))

abbrev c120e1 := ({ id := 1, parent := 0, name := ByteArray.empty, control := 0, kind := 0, owner := 0 } : Node)
theorem New_ref5Spec (RES : Tree) (hm : New_ref5 = some RES) : Spec Tryz.prog 120 [] [] (.agg [ow 0 RES.nodes.length, pI RES.next]) [] [roNode RES.nodes] := by
 unfold New_ref5 at hm
 refine SO Tryz.func120 rfl rfl [] [] ?_
 intro cx hnt
 refine DW.seq (RK hnt (.no :: []) [(0, rr 1000)] [(1000, bx [.p (.sl .nil 0 0 (fun _ => [])), pI 0])] trivial ?_)
 refine DW.seq (RN hnt (nn 4 []) [(0, rr 1000)] [(1000, bx [ow 1016 [(c120e1)].length, pI 2]), (1016, ob0 (roNode [(c120e1)]))] [] [(1000, .box [ow 1016 1, pI 2]), (1016, .row 6 1 (cut 6 [vi 1, vi 0, vs ByteArray.empty, vi 0, vi 0, vi 0]))] trivial (by kernel_rfl) .nil (.cons rfl (.box (.cons (MLe.ownLen (enc := encNode) (d := dNode) (f := (cut 6 [vi 1, vi 0, vs ByteArray.empty, vi 0, vi 0, vi 0])) (RowIs.lit (enc := encNode) (d := dNode) (n := 1) (f := (cut 6 [vi 1, vi 0, vs ByteArray.empty, vi 0, vi 0, vi 0])) [(c120e1)] rfl (fun | 0, _ => rfl | n + 1, h => absurd h (by omega)))) (.cons .rfl .nil))) (.cons rfl (BLe.typed (RowIs.lit (enc := encNode) (d := dNode) (n := 1) (f := (cut 6 [vi 1, vi 0, vs ByteArray.empty, vi 0, vi 0, vi 0])) [(c120e1)] rfl (fun | 0, _ => rfl | n + 1, h => absurd h (by omega)))) .nil)) ?_)
 refine DW.ret ?_
 obtain rfl := Option.some.inj hm
 exact retK [roNode [(c120e1)]] [1016] (.agg [ow 0 [(c120e1)].length, pI 2])

theorem New_ref6Spec (RES : Hierarchy) (hm : New_ref6 = some RES) : Spec Tryz.prog 64 [] [] (.agg [ow 0 RES.tree.nodes.length, pI RES.tree.next, ow 1 RES.tasks.length, pI RES.next]) [] [roNode RES.tree.nodes, roTask RES.tasks] := by
 unfold New_ref6 at hm
 refine SO Tryz.func64 rfl rfl [] [] ?_
 intro cx hnt
 refine DW.seq (RK hnt (.no :: []) [(0, rr 1000)] [(1000, bx [.p (.sl .nil 0 0 (fun _ => [])), pI 0, .p (.sl .nil 0 0 (fun _ => [])), pI 0])] trivial ?_)
 obtain ⟨r1, hr1, hm⟩ := bind_open hm
 refine DW.seq (RK hnt (.call 120 [] true (.agg [ow 0 r1.nodes.length, pI r1.next]) [] [roNode r1.nodes] :: nn 2 []) [(0, rr 1000)] [(1000, bx [ow 1008 r1.nodes.length, pI r1.next, .p (.sl .nil 0 0 (fun _ => [])), pI 1]), (1008, ob0 (roNode r1.nodes))] (an (New_ref5Spec r1 hr1) trivial) ?_)
 refine DW.conv (τ := mkSt [(0, rr 1000)] [(1000, bx [ow 1008 r1.nodes.length, pI r1.next, ow 100000 0, pI 1]), (1008, ob0 (roNode r1.nodes)), (100000, ob0 (roTask []))]) (Conv.trans (τ := mkSt [(0, rr 1000)] ((100000, ⟨0, .row 4 0 (elems encTask dTask [])⟩) :: [(1000, bx [ow 1008 r1.nodes.length, pI r1.next, ow 100000 0, pI 1]), (1008, ob0 (roNode r1.nodes))])) (Conv.adopt 100000 4 (elems encTask dTask []) rfl rfl (.rfl _) (.box (.cons (.rfl _) (.cons (.rfl _) (.cons (.nil _ _) (.cons (.rfl _) (.rfl _))))) (.keep (.rfl _)))) Conv.t0) ?_
 refine DW.ret ?_
 obtain rfl := Option.some.inj hm
 exact retK [roNode r1.nodes, roTask []] [1008, 100000] (.agg [ow 0 r1.nodes.length, pI r1.next, ow 1 0, pI 1])

abbrev c163e1 (p0 : ByteArray) (k1 : Int) : Nat × MV := (57, pB (!((((byteAt p0 (Int.toNat k1)) : Nat) : Int) == 45)))
theorem Valid_ref1Spec (p0 : ByteArray) (RES : Bool) (hm : Valid_ref1 p0 = some RES) : Spec Tryz.prog 163 [pS p0] [] (pB RES) [] [] := by
 unfold Valid_ref1 at hm
 refine SO Tryz.func163 rfl rfl [(0, pS p0)] [] ?_
 intro cx hnt
 refine DW.seq (RK hnt (.no :: []) [(0, pS p0)] [] trivial ?_)
 refine DW.seq (DW.seq ?_)
 refine DW.join (ι := Bool) (fun (y1 : Bool) => mkSt [(0, pS p0), (17, pB y1)] []) (fun y1 => (Valid_ref1J1 p0) y1 = some RES) ?_ ?_
 ·intro y1 hm
  unfold Valid_ref1J1 at hm
  refine condM hm ?_ ?_
  ·intro h4 hm
   refine DW.seq (RK hnt (.no :: []) [(2, pB false)] [] trivial ?_)
   refine DW.ret ?_
   obtain rfl := Option.some.inj hm
   exact retK [] [] (pB false)
  ·intro h4 hm
   refine DW.skip ?_
   refine DW.seq (DW.seq (RK hnt (.no :: []) [(0, pS p0), (3, pI 0)] [] trivial ?_))
   refine DW.block ?_
   obtain ⟨hc1, hm⟩ := guard_open hm
   refine DW.forO (fun (k1 : Int) (s1 : Unit) => mkSt [(0, pS p0), (3, pI k1)] []) (lo := 0) (hi := ((p0.size : Nat) : Int)) hm .refl ?_
   intro k1 s1 n1 hk1 hs1 he1
   refine DW.seq (DW.seq (RD hnt (nn 4 []) [] [(21, pB (decide (k1 < ((p0.size : Nat) : Int))))] [] [] trivial ?_))
   refine condK (decide (k1 < ((p0.size : Nat) : Int))) ?_ ?_
   ·intro h55
    have hlt1 : k1 < ((p0.size : Nat) : Int) := by have := of_decide_eq_true h55; omega
    have hm := hs1 hlt1
    unfold Valid_ref1L1 at hm
    refine DW.skip ?_
    refine DW.seq (DW.block ?_)
    obtain ⟨g56, hm⟩ := guard_open hm
    refine DW.seq (RD hnt (nn 4 []) [21] [(4, .p (vk .u8 (((byteAt p0 (Int.toNat k1)) : Nat) : Int)))] [] [] (an g56.1 (an g56.2 trivial)) ?_)
    refine DW.seq (DW.regJ (sl2 := [(0, pS p0), (3, pI k1), (57, pB (!((((((decide ((((byteAt p0 (Int.toNat k1)) : Nat) : Int) ≥ 97)) && (decide ((((byteAt p0 (Int.toNat k1)) : Nat) : Int) ≤ 122))) || ((decide ((((byteAt p0 (Int.toNat k1)) : Nat) : Int) ≥ 65)) && (decide ((((byteAt p0 (Int.toNat k1)) : Nat) : Int) ≤ 90)))) || ((decide ((((byteAt p0 (Int.toNat k1)) : Nat) : Int) ≥ 48)) && (decide ((((byteAt p0 (Int.toNat k1)) : Nat) : Int) ≤ 57)))) || ((((byteAt p0 (Int.toNat k1)) : Nat) : Int) == 95)) || ((((byteAt p0 (Int.toNat k1)) : Nat) : Int) == 45))))]) (ob2 := []) ?_ ?_)
    ·rcases bt (decide ((((byteAt p0 (Int.toNat k1)) : Nat) : Int) ≥ 97)) with h57 | h57
     ·rcases bt (decide ((((byteAt p0 (Int.toNat k1)) : Nat) : Int) ≤ 122)) with h58 | h58
      ·exact RT hnt (nn 5 (pT :: .no :: sk 6 (pT :: .no :: sk 6 (pT :: .no :: sk 2 (pT :: .no :: sk 2 (pT :: .no :: [])))))) [(57, pB false)] (an3 h57 (an5 h58 (an5 tt (an6 tt trivial)))) (by kernel_rfl) (.cons rfl (.of_eq (by rw [h57, h58]; try rfl)) .nil)
      ·rcases bt (decide ((((byteAt p0 (Int.toNat k1)) : Nat) : Int) ≥ 65)) with h59 | h59
       ·rcases bt (decide ((((byteAt p0 (Int.toNat k1)) : Nat) : Int) ≤ 90)) with h60 | h60
        ·exact RT hnt (nn 5 (pT :: nn 6 (pT :: pF :: .no :: sk 6 (pT :: .no :: sk 2 (pT :: .no :: sk 2 (pT :: .no :: [])))))) [(57, pB false)] (an3 h57 (an3 h58 (an2 h59 (an h58 (an h59 (an h58 (an5 h60 (an6 tt trivial)))))))) (by kernel_rfl) (.cons rfl (.of_eq (by rw [h57, h58, h59, h60]; try rfl)) .nil)
        ·rcases bt (decide ((((byteAt p0 (Int.toNat k1)) : Nat) : Int) ≥ 48)) with h61 | h61
         ·rcases bt (decide ((((byteAt p0 (Int.toNat k1)) : Nat) : Int) ≤ 57)) with h62 | h62
          ·exact RT hnt (nn 5 (pT :: nn 6 (pT :: pF :: nn 6 (pT :: pF :: .no :: sk 2 (pT :: .no :: sk 2 (pT :: .no :: [])))))) [(57, pB false)] (an3 h57 (an3 h58 (an2 h59 (an h58 (an h59 (an h58 (an3 h60 (an2 h61 (an h60 (an h61 (an h60 (an3 h62 (an3 tt trivial))))))))))))) (by kernel_rfl) (.cons rfl (.of_eq (by rw [h57, h58, h59, h60, h61, h62]; try rfl)) .nil)
          ·rcases bt ((((byteAt p0 (Int.toNat k1)) : Nat) : Int) == 95) with h63 | h63
           ·exact RT hnt (nn 5 (pT :: nn 6 (pT :: pF :: nn 6 (pT :: pF :: nn 3 (pF :: .no :: sk 2 (pT :: .no :: [])))))) [(57, pB false)] (an3 h57 (an3 h58 (an2 h59 (an h58 (an h59 (an h58 (an3 h60 (an2 h61 (an h60 (an h61 (an h60 (an3 h62 (an3 h63 trivial))))))))))))) (by kernel_rfl) (.cons rfl (.of_eq (by rw [h57, h58, h59, h60, h61, h62, h63]; try rfl)) .nil)
           ·exact RT hnt (nn 5 (pT :: nn 6 (pT :: pF :: nn 6 (pT :: pF :: nn 3 (pF :: nn 3 (pF :: .no :: [])))))) [(c163e1 p0 k1)] (an3 h57 (an3 h58 (an2 h59 (an h58 (an h59 (an h58 (an3 h60 (an2 h61 (an h60 (an h61 (an h60 (an3 h62 (an3 h63 trivial))))))))))))) (by kernel_rfl) (.cons rfl (.of_eq (by rw [h57, h58, h59, h60, h61, h62, h63]; try rfl)) .nil)
         ·rcases bt ((((byteAt p0 (Int.toNat k1)) : Nat) : Int) == 95) with h64 | h64
          ·exact RT hnt (nn 5 (pT :: nn 6 (pT :: pF :: nn 4 (sk 2 (pF :: pF :: nn 3 (pF :: .no :: sk 2 (pT :: .no :: []))))))) [(57, pB false)] (an3 h57 (an3 h58 (an2 h59 (an h58 (an h59 (an h58 (an3 h60 (an2 h61 (an h60 (an h61 (an h60 (an3 ff (an3 h64 trivial))))))))))))) (by kernel_rfl) (.cons rfl (.of_eq (by rw [h57, h58, h59, h60, h61, h64]; try rfl)) .nil)
          ·exact RT hnt (nn 5 (pT :: nn 6 (pT :: pF :: nn 4 (sk 2 (pF :: pF :: nn 3 (pF :: nn 3 (pF :: .no :: []))))))) [(c163e1 p0 k1)] (an3 h57 (an3 h58 (an2 h59 (an h58 (an h59 (an h58 (an3 h60 (an2 h61 (an h60 (an h61 (an h60 (an3 ff (an3 h64 trivial))))))))))))) (by kernel_rfl) (.cons rfl (.of_eq (by rw [h57, h58, h59, h60, h61, h64]; try rfl)) .nil)
       ·rcases bt (decide ((((byteAt p0 (Int.toNat k1)) : Nat) : Int) ≥ 48)) with h65 | h65
        ·rcases bt (decide ((((byteAt p0 (Int.toNat k1)) : Nat) : Int) ≤ 57)) with h66 | h66
         ·exact RT hnt (nn 5 (pT :: nn 4 (sk 2 (pF :: pF :: nn 6 (pT :: pF :: .no :: sk 2 (pT :: .no :: sk 2 (pT :: .no :: []))))))) [(57, pB false)] (an3 h57 (an3 h58 (an2 h59 (an h58 (an h59 (an h58 (an3 ff (an2 h65 (an ff (an h65 (an ff (an3 h66 (an3 tt trivial))))))))))))) (by kernel_rfl) (.cons rfl (.of_eq (by rw [h57, h58, h59, h65, h66]; try rfl)) .nil)
         ·rcases bt ((((byteAt p0 (Int.toNat k1)) : Nat) : Int) == 95) with h67 | h67
          ·exact RT hnt (nn 5 (pT :: nn 4 (sk 2 (pF :: pF :: nn 6 (pT :: pF :: nn 3 (pF :: .no :: sk 2 (pT :: .no :: []))))))) [(57, pB false)] (an3 h57 (an3 h58 (an2 h59 (an h58 (an h59 (an h58 (an3 ff (an2 h65 (an ff (an h65 (an ff (an3 h66 (an3 h67 trivial))))))))))))) (by kernel_rfl) (.cons rfl (.of_eq (by rw [h57, h58, h59, h65, h66, h67]; try rfl)) .nil)
          ·exact RT hnt (nn 5 (pT :: nn 4 (sk 2 (pF :: pF :: nn 6 (pT :: pF :: nn 3 (pF :: nn 3 (pF :: .no :: []))))))) [(c163e1 p0 k1)] (an3 h57 (an3 h58 (an2 h59 (an h58 (an h59 (an h58 (an3 ff (an2 h65 (an ff (an h65 (an ff (an3 h66 (an3 h67 trivial))))))))))))) (by kernel_rfl) (.cons rfl (.of_eq (by rw [h57, h58, h59, h65, h66, h67]; try rfl)) .nil)
        ·rcases bt ((((byteAt p0 (Int.toNat k1)) : Nat) : Int) == 95) with h68 | h68
         ·exact RT hnt (nn 5 (pT :: nn 4 (sk 2 (pF :: pF :: nn 4 (sk 2 (pF :: pF :: nn 3 (pF :: .no :: sk 2 (pT :: .no :: [])))))))) [(57, pB false)] (an3 h57 (an3 h58 (an2 h59 (an h58 (an h59 (an h58 (an3 ff (an2 h65 (an ff (an h65 (an4 ff (an3 h68 trivial)))))))))))) (by kernel_rfl) (.cons rfl (.of_eq (by rw [h57, h58, h59, h65, h68]; try rfl)) .nil)
         ·exact RT hnt (nn 5 (pT :: nn 4 (sk 2 (pF :: pF :: nn 4 (sk 2 (pF :: pF :: nn 3 (pF :: nn 3 (pF :: .no :: [])))))))) [(c163e1 p0 k1)] (an3 h57 (an3 h58 (an2 h59 (an h58 (an h59 (an h58 (an3 ff (an2 h65 (an ff (an h65 (an4 ff (an3 h68 trivial)))))))))))) (by kernel_rfl) (.cons rfl (.of_eq (by rw [h57, h58, h59, h65, h68]; try rfl)) .nil)
     ·rcases bt (decide ((((byteAt p0 (Int.toNat k1)) : Nat) : Int) ≥ 65)) with h69 | h69
      ·rcases bt (decide ((((byteAt p0 (Int.toNat k1)) : Nat) : Int) ≤ 90)) with h70 | h70
       ·exact RT hnt (nn 3 (sk 2 (pF :: nn 6 (pT :: pF :: .no :: sk 6 (pT :: .no :: sk 2 (pT :: .no :: sk 2 (pT :: .no :: []))))))) [(57, pB false)] (an3 h57 (an3 ff (an2 h69 (an ff (an h69 (an ff (an5 h70 (an6 tt trivial)))))))) (by kernel_rfl) (.cons rfl (.of_eq (by rw [h57, h69, h70]; try rfl)) .nil)
       ·rcases bt (decide ((((byteAt p0 (Int.toNat k1)) : Nat) : Int) ≥ 48)) with h71 | h71
        ·rcases bt (decide ((((byteAt p0 (Int.toNat k1)) : Nat) : Int) ≤ 57)) with h72 | h72
         ·exact RT hnt (nn 3 (sk 2 (pF :: nn 6 (pT :: pF :: nn 6 (pT :: pF :: .no :: sk 2 (pT :: .no :: sk 2 (pT :: .no :: []))))))) [(57, pB false)] (an3 h57 (an3 ff (an2 h69 (an ff (an h69 (an ff (an3 h70 (an2 h71 (an h70 (an h71 (an h70 (an3 h72 (an3 tt trivial))))))))))))) (by kernel_rfl) (.cons rfl (.of_eq (by rw [h57, h69, h70, h71, h72]; try rfl)) .nil)
         ·rcases bt ((((byteAt p0 (Int.toNat k1)) : Nat) : Int) == 95) with h73 | h73
          ·exact RT hnt (nn 3 (sk 2 (pF :: nn 6 (pT :: pF :: nn 6 (pT :: pF :: nn 3 (pF :: .no :: sk 2 (pT :: .no :: []))))))) [(57, pB false)] (an3 h57 (an3 ff (an2 h69 (an ff (an h69 (an ff (an3 h70 (an2 h71 (an h70 (an h71 (an h70 (an3 h72 (an3 h73 trivial))))))))))))) (by kernel_rfl) (.cons rfl (.of_eq (by rw [h57, h69, h70, h71, h72, h73]; try rfl)) .nil)
          ·exact RT hnt (nn 3 (sk 2 (pF :: nn 6 (pT :: pF :: nn 6 (pT :: pF :: nn 3 (pF :: nn 3 (pF :: .no :: []))))))) [(c163e1 p0 k1)] (an3 h57 (an3 ff (an2 h69 (an ff (an h69 (an ff (an3 h70 (an2 h71 (an h70 (an h71 (an h70 (an3 h72 (an3 h73 trivial))))))))))))) (by kernel_rfl) (.cons rfl (.of_eq (by rw [h57, h69, h70, h71, h72, h73]; try rfl)) .nil)
        ·rcases bt ((((byteAt p0 (Int.toNat k1)) : Nat) : Int) == 95) with h74 | h74
         ·exact RT hnt (nn 3 (sk 2 (pF :: nn 6 (pT :: pF :: nn 4 (sk 2 (pF :: pF :: nn 3 (pF :: .no :: sk 2 (pT :: .no :: [])))))))) [(57, pB false)] (an3 h57 (an3 ff (an2 h69 (an ff (an h69 (an ff (an3 h70 (an2 h71 (an h70 (an h71 (an h70 (an3 ff (an3 h74 trivial))))))))))))) (by kernel_rfl) (.cons rfl (.of_eq (by rw [h57, h69, h70, h71, h74]; try rfl)) .nil)
         ·exact RT hnt (nn 3 (sk 2 (pF :: nn 6 (pT :: pF :: nn 4 (sk 2 (pF :: pF :: nn 3 (pF :: nn 3 (pF :: .no :: [])))))))) [(c163e1 p0 k1)] (an3 h57 (an3 ff (an2 h69 (an ff (an h69 (an ff (an3 h70 (an2 h71 (an h70 (an h71 (an h70 (an3 ff (an3 h74 trivial))))))))))))) (by kernel_rfl) (.cons rfl (.of_eq (by rw [h57, h69, h70, h71, h74]; try rfl)) .nil)
      ·rcases bt (decide ((((byteAt p0 (Int.toNat k1)) : Nat) : Int) ≥ 48)) with h75 | h75
       ·rcases bt (decide ((((byteAt p0 (Int.toNat k1)) : Nat) : Int) ≤ 57)) with h76 | h76
        ·exact RT hnt (nn 3 (sk 2 (pF :: nn 4 (sk 2 (pF :: pF :: nn 6 (pT :: pF :: .no :: sk 2 (pT :: .no :: sk 2 (pT :: .no :: [])))))))) [(57, pB false)] (an3 h57 (an3 ff (an2 h69 (an ff (an h69 (an4 ff (an2 h75 (an ff (an h75 (an ff (an3 h76 (an3 tt trivial)))))))))))) (by kernel_rfl) (.cons rfl (.of_eq (by rw [h57, h69, h75, h76]; try rfl)) .nil)
        ·rcases bt ((((byteAt p0 (Int.toNat k1)) : Nat) : Int) == 95) with h77 | h77
         ·exact RT hnt (nn 3 (sk 2 (pF :: nn 4 (sk 2 (pF :: pF :: nn 6 (pT :: pF :: nn 3 (pF :: .no :: sk 2 (pT :: .no :: [])))))))) [(57, pB false)] (an3 h57 (an3 ff (an2 h69 (an ff (an h69 (an4 ff (an2 h75 (an ff (an h75 (an ff (an3 h76 (an3 h77 trivial)))))))))))) (by kernel_rfl) (.cons rfl (.of_eq (by rw [h57, h69, h75, h76, h77]; try rfl)) .nil)
         ·exact RT hnt (nn 3 (sk 2 (pF :: nn 4 (sk 2 (pF :: pF :: nn 6 (pT :: pF :: nn 3 (pF :: nn 3 (pF :: .no :: [])))))))) [(c163e1 p0 k1)] (an3 h57 (an3 ff (an2 h69 (an ff (an h69 (an4 ff (an2 h75 (an ff (an h75 (an ff (an3 h76 (an3 h77 trivial)))))))))))) (by kernel_rfl) (.cons rfl (.of_eq (by rw [h57, h69, h75, h76, h77]; try rfl)) .nil)
       ·rcases bt ((((byteAt p0 (Int.toNat k1)) : Nat) : Int) == 95) with h78 | h78
        ·exact RT hnt (nn 3 (sk 2 (pF :: nn 4 (sk 2 (pF :: pF :: nn 4 (sk 2 (pF :: pF :: nn 3 (pF :: .no :: sk 2 (pT :: .no :: []))))))))) [(57, pB false)] (an3 h57 (an3 ff (an2 h69 (an ff (an h69 (an4 ff (an2 h75 (an ff (an h75 (an4 ff (an3 h78 trivial))))))))))) (by kernel_rfl) (.cons rfl (.of_eq (by rw [h57, h69, h75, h78]; try rfl)) .nil)
        ·exact RT hnt (nn 3 (sk 2 (pF :: nn 4 (sk 2 (pF :: pF :: nn 4 (sk 2 (pF :: pF :: nn 3 (pF :: nn 3 (pF :: .no :: []))))))))) [(c163e1 p0 k1)] (an3 h57 (an3 ff (an2 h69 (an ff (an h69 (an4 ff (an2 h75 (an ff (an h75 (an4 ff (an3 h78 trivial))))))))))) (by kernel_rfl) (.cons rfl (.of_eq (by rw [h57, h69, h75, h78]; try rfl)) .nil)
    ·refine condM hm ?_ ?_
     ·intro h79 hm
      refine DW.seq (RK hnt (.no :: []) [(2, pB false)] [] trivial ?_)
      refine DW.ret ?_
      obtain rfl := Option.some.inj hm
      exact retK [] [] (pB false)
     ·intro h79 hm
      refine DW.skip ?_
      refine DW.done ?_
      show DW _ _ _ _ _
      refine RK hnt (nn 3 []) [(0, pS p0), (3, pI (w64 (k1 + 1)))] [] trivial ?_
      exact joinDone () ⟨hlt1, hm⟩ (Conv.tp [(3, pI (w64 (k1 + 1)))] [] (by kernel_rfl) (.cons rfl (.of_eq (congrArg pI (w64_for (lo := 0) (hi := ((p0.size : Nat) : Int)) (by omega) hk1 hlt1 (by omega)))) .nil) .nil)
   ·intro h55
    have hge1 : ¬ k1 < ((p0.size : Nat) : Int) := by have := of_decide_eq_false h55; omega
    have hm := he1 hge1
    unfold Valid_ref1D1 at hm
    refine DW.exit ?_
    refine joinQ_exit ?_
    refine KQ_exit ?_
    refine blockQ_exit ?_
    show DW _ _ _ _ _
    refine DW.seq (RK hnt (.no :: []) [(2, pB true)] [] trivial ?_)
    refine DW.ret ?_
    obtain rfl := Option.some.inj hm
    exact retK [] [] (pB true)
 ·rcases bt (((p0.size : Nat) : Int) == 0) with h1 | h1
  ·replace hm := if_t h1 hm
   refine RK hnt (nn 4 (sk 3 (pT :: .no :: sk 3 (pT :: [])))) [(0, pS p0), (17, pB true)] [] (an4 h1 (an4 tt trivial)) ?_
   exact joinDone true hm .refl
  ·replace hm := if_f h1 hm
   rcases bt (decide (((p0.size : Nat) : Int) > 32)) with h2 | h2
   ·replace hm := if_t h2 hm
    refine RK hnt (nn 7 (pF :: .no :: sk 3 (pT :: []))) [(0, pS p0), (17, pB true)] [] (an4 h1 (an4 h2 trivial)) ?_
    exact joinDone true hm .refl
   ·replace hm := if_f h2 hm
    obtain ⟨g3, hm⟩ := guard_open hm
    refine RK hnt (nn 7 (pF :: nn 4 (pF :: []))) [(0, pS p0), (17, pB ((((byteAt p0 0) : Nat) : Int) == 45))] [] (an4 h1 (an2 h2 (an (nn0 0) (an (ltc g3) (an2 h2 trivial))))) ?_
    exact joinDone ((((byteAt p0 0) : Nat) : Int) == 45) hm .refl

abbrev c154e1 (p0 : Tree) (p1 : Int) := (p0.nodes.getD (Int.toNat p1) dNode)
abbrev c154e2 (p0 : Tree) (p1 : Int) : Nat × Obj := (1040, bx (pm (encNode (c154e1 p0 p1))))
abbrev c154e3 (p0 : Tree) : Nat × Obj := (1016, bx (pm (encTree p0)))
abbrev c154e4 (p0 : Tree) (k1 : Int) := (p0.nodes.getD (Int.toNat k1) dNode)
theorem node_ref5Spec (p0 : Tree) (p1 : Int) (RES : Bool) (hm : node_ref5 p0 p1 = some RES) : Spec Tryz.prog 154 [.p (.agg (encTree p0)), pI p1] [] (pB RES) [] [] := by
 unfold node_ref5 at hm
 refine SO Tryz.func154 rfl rfl [(0, .p (.agg (encTree p0))), (1, pI p1)] [] ?_
 intro cx hnt
 refine DW.seq (RK hnt (nn 2 []) [(1, pI p1), (2, rr 1016)] [(c154e3 p0)] trivial ?_)
 obtain ⟨g1, hm⟩ := guard_open hm
 refine DW.seq (RD hnt (nn 7 []) [] [(5, rr 1040)] [] [(c154e2 p0 p1)] (an g1.1 (an g1.2 trivial)) ?_)
 refine DW.seq (DW.seq (DW.regJ (sl2 := [(1, pI p1), (2, rr 1016), (5, rr 1040), (40, pB (((((((c154e1 p0 p1).kind != 0) && ((c154e1 p0 p1).kind != 1)) || (decide ((c154e1 p0 p1).control < 0))) || (decide ((c154e1 p0 p1).control > 31))) || (decide ((c154e1 p0 p1).owner < 0))) || (decide ((c154e1 p0 p1).owner > 1048576))))]) (ob2 := [(c154e3 p0), (c154e2 p0 p1)]) ?_ ?_))
 ·rcases bt ((c154e1 p0 p1).kind != 0) with h2 | h2
  ·rcases bt ((c154e1 p0 p1).kind != 1) with h3 | h3
   ·exact RT hnt (nn 7 (pT :: .no :: sk 3 (pT :: .no :: sk 3 (pT :: .no :: sk 3 (pT :: .no :: sk 3 (pT :: [])))))) [(40, pB true)] (an4 h2 (an4 h3 (an6 tt (an6 tt trivial)))) (by kernel_rfl) (.cons rfl (.of_eq (by rw [h2, h3]; try rfl)) .nil)
   ·rcases bt (decide ((c154e1 p0 p1).control < 0)) with h4 | h4
    ·exact RT hnt (nn 7 (pT :: nn 4 (pF :: .no :: sk 3 (pT :: .no :: sk 3 (pT :: .no :: sk 3 (pT :: [])))))) [(40, pB true)] (an4 h2 (an4 h3 (an4 h4 (an2 tt (an6 tt trivial))))) (by kernel_rfl) (.cons rfl (.of_eq (by rw [h2, h3, h4]; try rfl)) .nil)
    ·rcases bt (decide ((c154e1 p0 p1).control > 31)) with h5 | h5
     ·exact RT hnt (nn 7 (pT :: nn 4 (pF :: nn 4 (pF :: .no :: sk 3 (pT :: .no :: sk 3 (pT :: [])))))) [(40, pB true)] (an4 h2 (an4 h3 (an4 h4 (an4 h5 (an4 tt trivial))))) (by kernel_rfl) (.cons rfl (.of_eq (by rw [h2, h3, h4, h5]; try rfl)) .nil)
     ·rcases bt (decide ((c154e1 p0 p1).owner < 0)) with h6 | h6
      ·exact RT hnt (nn 7 (pT :: nn 4 (pF :: nn 4 (pF :: nn 4 (pF :: .no :: sk 3 (pT :: [])))))) [(40, pB true)] (an4 h2 (an4 h3 (an4 h4 (an4 h5 (an4 h6 trivial))))) (by kernel_rfl) (.cons rfl (.of_eq (by rw [h2, h3, h4, h5, h6]; try rfl)) .nil)
      ·exact RT hnt (nn 7 (pT :: nn 4 (pF :: nn 4 (pF :: nn 4 (pF :: nn 4 (pF :: [])))))) [(40, pB (decide ((c154e1 p0 p1).owner > 1048576)))] (an4 h2 (an4 h3 (an4 h4 (an4 h5 (an4 h6 trivial))))) (by kernel_rfl) (.cons rfl (.of_eq (by rw [h2, h3, h4, h5, h6]; try rfl)) .nil)
  ·rcases bt (decide ((c154e1 p0 p1).control < 0)) with h7 | h7
   ·exact RT hnt (nn 4 (sk 3 (pF :: nn 4 (pF :: .no :: sk 3 (pT :: .no :: sk 3 (pT :: .no :: sk 3 (pT :: []))))))) [(40, pB true)] (an4 h2 (an4 ff (an4 h7 (an2 tt (an6 tt trivial))))) (by kernel_rfl) (.cons rfl (.of_eq (by rw [h2, h7]; try rfl)) .nil)
   ·rcases bt (decide ((c154e1 p0 p1).control > 31)) with h8 | h8
    ·exact RT hnt (nn 4 (sk 3 (pF :: nn 4 (pF :: nn 4 (pF :: .no :: sk 3 (pT :: .no :: sk 3 (pT :: []))))))) [(40, pB true)] (an4 h2 (an4 ff (an4 h7 (an4 h8 (an4 tt trivial))))) (by kernel_rfl) (.cons rfl (.of_eq (by rw [h2, h7, h8]; try rfl)) .nil)
    ·rcases bt (decide ((c154e1 p0 p1).owner < 0)) with h9 | h9
     ·exact RT hnt (nn 4 (sk 3 (pF :: nn 4 (pF :: nn 4 (pF :: nn 4 (pF :: .no :: sk 3 (pT :: []))))))) [(40, pB true)] (an4 h2 (an4 ff (an4 h7 (an4 h8 (an4 h9 trivial))))) (by kernel_rfl) (.cons rfl (.of_eq (by rw [h2, h7, h8, h9]; try rfl)) .nil)
     ·exact RT hnt (nn 4 (sk 3 (pF :: nn 4 (pF :: nn 4 (pF :: nn 4 (pF :: nn 4 (pF :: []))))))) [(40, pB (decide ((c154e1 p0 p1).owner > 1048576)))] (an4 h2 (an4 ff (an4 h7 (an4 h8 (an4 h9 trivial))))) (by kernel_rfl) (.cons rfl (.of_eq (by rw [h2, h7, h8, h9]; try rfl)) .nil)
 ·refine condM hm ?_ ?_
  ·intro h10 hm
   refine DW.seq (RK hnt (.no :: []) [(4, pB false)] [] trivial ?_)
   refine DW.ret ?_
   obtain rfl := Option.some.inj hm
   exact retK [] [] (pB false)
  ·intro h10 hm
   refine DW.skip ?_
   refine DW.seq (DW.seq (RD hnt (nn 2 []) [40] [(42, pB (p1 == 0))] [] [] trivial ?_))
   refine condM hm ?_ ?_
   ·intro h11 hm
    refine DW.seq (DW.regJ (sl2 := [(4, pB (((((c154e1 p0 p1).id == 1) && ((c154e1 p0 p1).parent == 0)) && (beqS (c154e1 p0 p1).name ByteArray.empty)) && ((c154e1 p0 p1).kind == 0)))]) (ob2 := []) ?_ ?_)
    ·rcases bt ((c154e1 p0 p1).id == 1) with h12 | h12
     ·rcases bt ((c154e1 p0 p1).parent == 0) with h13 | h13
      ·rcases bt (beqS (c154e1 p0 p1).name ByteArray.empty) with h14 | h14
       ·exact RT hnt (nn 7 (pT :: nn 4 (pT :: nn 4 (pT :: .no :: [])))) [(4, pB ((c154e1 p0 p1).kind == 0))] (an4 h12 (an4 h13 (an4 h14 trivial))) (by kernel_rfl) (.cons rfl (.of_eq (by rw [h12, h13, h14]; try rfl)) .nil)
       ·exact RT hnt (nn 7 (pT :: nn 4 (pT :: .no :: sk 3 (pF :: .no :: [])))) [(4, pB false)] (an4 h12 (an4 h13 (an4 h14 trivial))) (by kernel_rfl) (.cons rfl (.of_eq (by rw [h12, h13, h14]; try rfl)) .nil)
      ·exact RT hnt (nn 7 (pT :: .no :: sk 3 (pF :: .no :: sk 3 (pF :: .no :: [])))) [(4, pB false)] (an4 h12 (an4 h13 (an4 ff trivial))) (by kernel_rfl) (.cons rfl (.of_eq (by rw [h12, h13]; try rfl)) .nil)
     ·exact RT hnt (nn 4 (sk 3 (pF :: .no :: sk 3 (pF :: .no :: sk 3 (pF :: .no :: []))))) [(4, pB false)] (an4 h12 (an2 ff (an6 ff trivial))) (by kernel_rfl) (.cons rfl (.of_eq (by rw [h12]; try rfl)) .nil)
    ·refine DW.ret ?_
     obtain rfl := Option.some.inj hm
     exact retK [] [] (pB (((((c154e1 p0 p1).id == 1) && ((c154e1 p0 p1).parent == 0)) && (beqS (c154e1 p0 p1).name ByteArray.empty)) && ((c154e1 p0 p1).kind == 0)))
   ·intro h11 hm
    refine DW.skip ?_
    obtain ⟨g15, hm⟩ := guard_open hm
    refine DW.seq (DW.seq ?_)
    refine DW.join (ι := Bool) (fun (y1 : Bool) => mkSt [(1, pI p1), (2, rr 1016), (5, rr 1040), (76, pB y1)] [(c154e3 p0), (c154e2 p0 p1)]) (fun y1 => (node_ref5J1 p0 p1) y1 = some RES) ?_ ?_
    ·intro y1 hm
     unfold node_ref5J1 at hm
     refine condM hm ?_ ?_
     ·intro h18 hm
      refine DW.seq (RK hnt (.no :: []) [(4, pB false)] [] trivial ?_)
      refine DW.ret ?_
      obtain rfl := Option.some.inj hm
      exact retK [] [] (pB false)
     ·intro h18 hm
      refine DW.skip ?_
      refine DW.seq (RD hnt (.no :: []) [76] [(6, pB false)] [] [] trivial ?_)
      refine DW.seq (DW.seq (RD hnt (.no :: []) [] [(7, pI 0)] [] [] trivial ?_))
      refine DW.block ?_
      obtain ⟨hc1, hm⟩ := guard_open hm
      refine DW.forO (fun (k1 : Int) (s1 : Bool) => mkSt [(1, pI p1), (2, rr 1016), (5, rr 1040), (6, pB s1), (7, pI k1)] [(c154e3 p0), (c154e2 p0 p1)]) (lo := 0) (hi := p1) hm Conv.eqK ?_
      intro k1 s1 n1 hk1 hs1 he1
      refine DW.seq (DW.seq (RD hnt (nn 3 []) [] [(79, pB (decide (k1 < p1)))] [] [] trivial ?_))
      refine condK (decide (k1 < p1)) ?_ ?_
      ·intro h32
       have hlt1 : k1 < p1 := by have := of_decide_eq_true h32; omega
       have hm := hs1 hlt1
       unfold node_ref5L1 at hm
       refine DW.skip ?_
       refine DW.seq (DW.block ?_)
       refine DW.seq ?_
       refine DW.join (ι := Bool) (fun (y5 : Bool) => mkSt [(1, pI p1), (2, rr 1016), (5, rr 1040), (6, pB y5), (7, pI k1)] [(c154e3 p0), (c154e2 p0 p1)]) (fun y5 => (node_ref5J5 p0 p1 k1 n1) y5 = some RES) ?_ ?_
       ·intro y5 hm
        unfold node_ref5J5 at hm
        obtain ⟨g35, hm⟩ := guard_open hm
        refine DW.seq ?_
        refine DW.join (ι := Bool) (fun (y6 : Bool) => mkSt [(1, pI p1), (2, rr 1016), (5, rr 1040), (6, pB y5), (7, pI k1), (113, pB y6)] [(c154e3 p0), (c154e2 p0 p1)]) (fun y6 => (node_ref5J6 n1 y5) y6 = some RES) ?_ ?_
        ·intro y6 hm
         unfold node_ref5J6 at hm
         refine condM hm ?_ ?_
         ·intro h38 hm
          refine DW.seq (RK hnt (.no :: []) [(4, pB false)] [] trivial ?_)
          refine DW.ret ?_
          obtain rfl := Option.some.inj hm
          exact retK [] [] (pB false)
         ·intro h38 hm
          refine DW.skip ?_
          refine DW.done ?_
          show DW _ _ _ _ _
          refine RD hnt (nn 3 []) [113] [(7, pI (w64 (k1 + 1)))] [] [] trivial ?_
          exact joinDone y5 ⟨hlt1, hm⟩ (Conv.tp [(7, pI (w64 (k1 + 1)))] [] (by kernel_rfl) (.cons rfl (.of_eq (congrArg pI (w64_for (lo := 0) (hi := p1) (by omega) hk1 hlt1 (by omega)))) .nil) .nil)
        ·rcases bt ((c154e4 p0 k1).parent == (c154e1 p0 p1).parent) with h36 | h36
         ·replace hm := if_t h36 hm
          obtain ⟨g37, hm⟩ := guard_open hm
          refine RD hnt (nn 19 (pT :: [])) [] [(113, pB (beqS (c154e4 p0 k1).name (c154e1 p0 p1).name))] [] [] (an g35.1 (an g35.2 (an4 h36 (an g37.1 (an g37.2 (an6 h36 trivial)))))) ?_
          exact joinDone (beqS (c154e4 p0 k1).name (c154e1 p0 p1).name) hm Conv.eqK
         ·replace hm := if_f h36 hm
          refine RD hnt (nn 10 (sk 9 (pF :: []))) [] [(113, pB false)] [] [] (an g35.1 (an g35.2 (an4 h36 (an6 h36 trivial)))) ?_
          exact joinDone false hm Conv.eqK
       ·rcases bt s1 with h33 | h33
        ·replace hm := if_t h33 hm
         refine RD hnt (nn 2 (sk 9 (pT :: .no :: []))) [79] [(6, pB true)] [] [] (an4 h33 (an6 h33 trivial)) ?_
         exact joinDone true hm Conv.eqK
        ·replace hm := if_f h33 hm
         obtain ⟨g34, hm⟩ := guard_open hm
         refine RD hnt (nn 11 (pF :: .no :: [])) [79] [(6, pB ((c154e4 p0 k1).id == (c154e1 p0 p1).parent))] [] [] (an4 h33 (an g34.1 (an g34.2 (an6 h33 trivial)))) ?_
         exact joinDone ((c154e4 p0 k1).id == (c154e1 p0 p1).parent) hm Conv.eqK
      ·intro h32
       have hge1 : ¬ k1 < p1 := by have := of_decide_eq_false h32; omega
       have hm := he1 hge1
       unfold node_ref5D1 at hm
       refine DW.exit ?_
       refine joinQ_exit ?_
       refine KQ_exit ?_
       refine blockQ_exit ?_
       show DW _ _ _ _ _
       refine DW.seq (RK hnt (nn 2 []) [(4, pB s1)] [] trivial ?_)
       refine DW.ret ?_
       obtain rfl := Option.some.inj hm
       exact retK [] [] (pB s1)
    ·rcases bt (decide ((c154e1 p0 p1).id ≤ (p0.nodes.getD (Int.toNat (w64 (p1 - 1))) dNode).id)) with h16 | h16
     ·replace hm := if_t h16 hm
      refine RD hnt (nn 11 (sk 4 (pT :: []))) [42] [(76, pB true)] [] [] (an g15.1 (an g15.2 (an5 h16 trivial))) ?_
      exact joinDone true hm Conv.eqK
     ·replace hm := if_f h16 hm
      obtain ⟨r17, hr17, hm⟩ := bind_open hm
      refine RD hnt (nn 13 (.call 163 [] true (pB r17) [] [] :: .no :: pF :: [])) [42] [(76, pB (!r17))] [] [] (an g15.1 (an g15.2 (an3 h16 (an (Valid_ref1Spec (c154e1 p0 p1).name r17 hr17) (an2 h16 trivial))))) ?_
      exact joinDone (!r17) hm Conv.eqK

abbrev c89e1 (p0 : Tree) : Nat × Obj := (1016, bx (pm (encTree p0)))
theorem up_ref5Spec (p0 : Tree) (p1 : Int) (RES : List Int) (hm : up_ref5 p0 p1 = some RES) : Spec Tryz.prog 89 [.p (.agg (encTree p0)), pI p1] [] (ow 0 RES.length) [] [roI RES] := by
 unfold up_ref5 at hm
 refine SO Tryz.func89 rfl rfl [(0, .p (.agg (encTree p0))), (1, pI p1)] [] ?_
 intro cx hnt
 refine DW.seq (RK hnt (nn 2 []) [(1, pI p1), (2, rr 1016)] [(c89e1 p0)] trivial ?_)
 refine DW.seq (RD hnt (.no :: []) [] [(5, .p (.sl .nil 0 0 (fun _ => [])))] [] [] trivial ?_)
 refine DW.seq (DW.seq (RD hnt (nn 5 []) [] [(6, pI (w64 (((p0.nodes.length : Nat) : Int) - 1)))] [] [] trivial ?_))
 refine DW.block ?_
 refine DW.whileO (fun (s1 : (List Int) × Int × Int) => mkSt [(1, pI s1.2.1), (2, rr 1016), (5, ow 1208 s1.1.length), (6, pI s1.2.2)] [(c89e1 p0), (1208, ob0 (roI s1.1))]) hm (Conv.trans (τ := mkSt [(1, pI p1), (2, rr 1016), (5, .p (.sl .nil 0 0 (fun _ => []))), (6, pI (w64 (((p0.nodes.length : Nat) : Int) - 1)))] [(c89e1 p0)]) Conv.eqK (Conv.trans (τ := mkSt [(1, pI p1), (2, rr 1016), (5, ow 1208 0), (6, pI (w64 (((p0.nodes.length : Nat) : Int) - 1)))] ((1208, ⟨0, .row 1 0 (elems encI 0 [])⟩) :: [(c89e1 p0)])) (Conv.adopt 1208 1 (elems encI 0 []) rfl rfl (.cons (.one (.rfl _)) (.cons (.one (.rfl _)) (.cons (.one (.nil _ _)) (.cons (.one (.rfl _)) (.rfl _))))) (.rfl _)) Conv.t0)) ?_
 intro s1 n1 hm
 unfold up_ref5L1 at hm
 refine DW.seq (DW.seq (RD hnt (nn 2 []) [] [(12, pB (decide (s1.2.2 ≥ 0)))] [] [] trivial ?_))
 refine condM hm ?_ ?_
 ·intro h5 hm
  refine DW.skip ?_
  refine DW.seq ?_
  refine DW.join (ι := (List Int) × Int) (fun (y2 : (List Int) × Int) => mkSt [(1, pI y2.2), (2, rr 1016), (5, ow 1208 y2.1.length), (6, pI s1.2.2)] [(c89e1 p0), (1208, ob0 (roI y2.1))]) (fun y2 => (up_ref5J2 s1 n1) y2 = some RES) ?_ ?_
  ·intro y2 hm
   unfold up_ref5J2 at hm
   refine RD hnt (nn 3 []) [] [(6, pI (w64 (s1.2.2 - 1)))] [] [] trivial ?_
   exact joinDone (y2.1, y2.2, (w64 (s1.2.2 - 1))) hm Conv.eqK
  ·refine DW.block ?_
   obtain ⟨g6, hm⟩ := guard_open hm
   refine DW.seq (RD hnt (nn 8 []) [12] [(22, pB ((p0.nodes.getD (Int.toNat s1.2.2) dNode).id == s1.2.1))] [] [] (an g6.1 (an g6.2 trivial)) ?_)
   refine condM hm ?_ ?_
   ·intro h7 hm
    obtain ⟨g8, hm⟩ := guard_open hm
    refine DW.seq (RN hnt (nn 5 []) [(2, rr 1016), (5, ow 1208 (s1.1 ++ [s1.2.1]).length), (6, pI s1.2.2)] [(c89e1 p0), (1208, ob0 (roI (s1.1 ++ [s1.2.1])))] [(5, ow 1208 (s1.1.length + 1))] [(1208, .row 1 (s1.1.length + 1) (catF s1.1.length (elI s1.1) (cut 1 [vi s1.2.1])))] (an (by omega : (s1.1.length + 1) * 8 ≤ 140737488355328) trivial) (by kernel_rfl) (.cons rfl (MLe.ownLen (enc := encI) (d := 0) (f := (catF s1.1.length (elI s1.1) (cut 1 [vi s1.2.1]))) (RowIs.cat RowIs.elems (RowIs.lit (enc := encI) (d := 0) (n := 1) (f := (cut 1 [vi s1.2.1])) [s1.2.1] rfl (fun | 0, _ => rfl | n + 1, h => absurd h (by omega))))) .nil) (.cons rfl (BLe.typed (RowIs.cat RowIs.elems (RowIs.lit (enc := encI) (d := 0) (n := 1) (f := (cut 1 [vi s1.2.1])) [s1.2.1] rfl (fun | 0, _ => rfl | n + 1, h => absurd h (by omega))))) .nil) ?_)
    obtain ⟨g9, hm⟩ := guard_open hm
    refine RD hnt (nn 7 []) [] [(1, pI (p0.nodes.getD (Int.toNat s1.2.2) dNode).parent)] [] [] (an g9.1 (an g9.2 trivial)) ?_
    exact blockDone ((s1.1 ++ [s1.2.1]), (p0.nodes.getD (Int.toNat s1.2.2) dNode).parent) hm Conv.eqK
   ·intro h7 hm
    refine DW.skip ?_
    exact blockDone (s1.1, s1.2.1) hm Conv.t0
 ·intro h5 hm
  refine DW.exit ?_
  refine joinQ_exit ?_
  refine KQ_exit ?_
  refine blockQ_exit ?_
  show DW _ _ _ _ _
  refine DW.seq (RK hnt (nn 2 []) [(4, ow 1208 s1.1.length)] [(1208, ob0 (roI s1.1))] trivial ?_)
  refine DW.ret ?_
  obtain rfl := Option.some.inj hm
  exact retK [roI s1.1] [1208] (ow 0 s1.1.length)

abbrev c110e1 (p0 : Tree) : Nat × MV := (3, pI ((p0.nodes.length : Nat) : Int))
theorem Check_ref5Spec (p0 : Tree) (RES : Bool) (hm : Check_ref5 p0 = some RES) : Spec Tryz.prog 110 [.p (.agg (encTree p0))] [] (pB RES) [] [] := by
 unfold Check_ref5 at hm
 refine SO Tryz.func110 rfl rfl [(0, .p (.agg (encTree p0)))] [] ?_
 intro cx hnt
 refine DW.seq (RK hnt (nn 2 []) [(1, rr 1008)] [(1008, bx (pm (encTree p0)))] trivial ?_)
 refine DW.seq (RD hnt (nn 4 []) [] [(c110e1 p0)] [] [] trivial ?_)
 refine DW.seq (DW.seq (DW.regJ (sl2 := [(1, rr 1008), (c110e1 p0), (14, pB ((decide (((p0.nodes.length : Nat) : Int) < 1)) || (decide (((p0.nodes.length : Nat) : Int) > 64))))]) (ob2 := [(1008, bx (pm (encTree p0)))]) ?_ ?_))
 ·rcases bt (decide (((p0.nodes.length : Nat) : Int) < 1)) with h1 | h1
  ·exact RT hnt (nn 3 (sk 2 (pT :: []))) [(14, pB true)] (an3 h1 trivial) (by kernel_rfl) (.cons rfl (.of_eq (by rw [h1]; try rfl)) .nil)
  ·exact RT hnt (nn 5 (pF :: [])) [(14, pB (decide (((p0.nodes.length : Nat) : Int) > 64)))] (an3 h1 trivial) (by kernel_rfl) (.cons rfl (.of_eq (by rw [h1]; try rfl)) .nil)
 ·refine condM hm ?_ ?_
  ·intro h2 hm
   refine DW.seq (RK hnt (.no :: []) [(2, pB false)] [] trivial ?_)
   refine DW.ret ?_
   obtain rfl := Option.some.inj hm
   exact retK [] [] (pB false)
  ·intro h2 hm
   refine DW.skip ?_
   refine DW.seq (DW.seq (RD hnt (.no :: []) [14] [(4, pI 0)] [] [] trivial ?_))
   refine DW.block ?_
   obtain ⟨hc1, hm⟩ := guard_open hm
   refine DW.rangeO (fun (k1 : Nat) (s1 : Unit) => mkSt [(1, rr 1008), (c110e1 p0), (4, pI ((k1 : Nat) : Int))] [(1008, bx (pm (encTree p0)))]) dNode hm Conv.eqK ?_
   intro k1 s1 n1 hk1 hs1 he1
   refine DW.seq (DW.seq (RD hnt (nn 3 []) [] [(17, pB (decide (((k1 : Nat) : Int) < ((p0.nodes.length : Nat) : Int))))] [] [] trivial ?_))
   refine condK (decide (((k1 : Nat) : Int) < ((p0.nodes.length : Nat) : Int))) ?_ ?_
   ·intro h32
    have hlt1 : k1 < p0.nodes.length := by have := of_decide_eq_true h32; omega
    have hm := hs1 hlt1
    unfold Check_ref5L1 at hm
    refine DW.skip ?_
    refine DW.seq (DW.block ?_)
    obtain ⟨r33, hr33, hm⟩ := bind_open hm
    refine DW.seq (RD hnt (nn 2 (.call 154 [] true (pB r33) [] [] :: .no :: [])) [17] [(23, pB (!r33))] [] [] (an (node_ref5Spec p0 ((k1 : Nat) : Int) r33 hr33) trivial) ?_)
    refine condM hm ?_ ?_
    ·intro h34 hm
     refine DW.seq (RK hnt (.no :: []) [(2, pB false)] [] trivial ?_)
     refine DW.ret ?_
     obtain rfl := Option.some.inj hm
     exact retK [] [] (pB false)
    ·intro h34 hm
     refine DW.skip ?_
     refine DW.done ?_
     show DW _ _ _ _ _
     refine RD hnt (nn 3 []) [23] [(4, pI (w64 (((k1 : Nat) : Int) + 1)))] [] [] trivial ?_
     exact joinDone () ⟨hlt1, hm⟩ (Conv.tp [(4, pI (w64 (((k1 : Nat) : Int) + 1)))] [] (by kernel_rfl) (.cons rfl (.of_eq (congrArg pI (w64_succ hlt1 hc1))) .nil) .nil)
   ·intro h32
    have hge1 : ¬ k1 < p0.nodes.length := by have := of_decide_eq_false h32; omega
    have hm := he1 hge1
    unfold Check_ref5D1 at hm
    refine DW.exit ?_
    refine joinQ_exit ?_
    refine KQ_exit ?_
    refine blockQ_exit ?_
    show DW _ _ _ _ _
    refine DW.seq (DW.seq (RD hnt (.no :: []) [4, 17] [(5, pI 0)] [] [] trivial ?_))
    refine DW.block ?_
    obtain ⟨hc4, hm⟩ := guard_open hm
    refine DW.rangeO (fun (k4 : Nat) (s4 : Unit) => mkSt [(1, rr 1008), (c110e1 p0), (5, pI ((k4 : Nat) : Int))] [(1008, bx (pm (encTree p0)))]) dNode hm Conv.eqK ?_
    intro k4 s4 n4 hk4 hs4 he4
    refine DW.seq (DW.seq (RD hnt (nn 3 []) [] [(26, pB (decide (((k4 : Nat) : Int) < ((p0.nodes.length : Nat) : Int))))] [] [] trivial ?_))
    refine condK (decide (((k4 : Nat) : Int) < ((p0.nodes.length : Nat) : Int))) ?_ ?_
    ·intro h49
     have hlt4 : k4 < p0.nodes.length := by have := of_decide_eq_true h49; omega
     have hm := hs4 hlt4
     unfold Check_ref5L4 at hm
     refine DW.skip ?_
     refine DW.seq (DW.block ?_)
     obtain ⟨r50, hr50, hm⟩ := bind_open hm
     refine DW.seq (RD hnt (nn 7 (.call 89 [] true (ow 0 r50.length) [] [roI r50] :: nn 2 [])) [26] [(38, pB (decide (((r50.length : Nat) : Int) > 9)))] [] [] (an (nn0 k4) (an (ltc hlt4) (an (up_ref5Spec p0 (p0.nodes.getD k4 (default : Node)).id r50 hr50) trivial))) ?_)
     refine condM hm ?_ ?_
     ·intro h51 hm
      refine DW.seq (RK hnt (.no :: []) [(2, pB false)] [] trivial ?_)
      refine DW.ret ?_
      obtain rfl := Option.some.inj hm
      exact retK [] [] (pB false)
     ·intro h51 hm
      refine DW.skip ?_
      refine DW.done ?_
      show DW _ _ _ _ _
      refine RD hnt (nn 3 []) [38] [(5, pI (w64 (((k4 : Nat) : Int) + 1)))] [] [] trivial ?_
      exact joinDone () ⟨hlt4, hm⟩ (Conv.tp [(5, pI (w64 (((k4 : Nat) : Int) + 1)))] [] (by kernel_rfl) (.cons rfl (.of_eq (congrArg pI (w64_succ hlt4 hc4))) .nil) .nil)
    ·intro h49
     have hge4 : ¬ k4 < p0.nodes.length := by have := of_decide_eq_false h49; omega
     have hm := he4 hge4
     unfold Check_ref5D4 at hm
     refine DW.exit ?_
     refine joinQ_exit ?_
     refine KQ_exit ?_
     refine blockQ_exit ?_
     show DW _ _ _ _ _
     obtain ⟨g52, hm⟩ := guard_open hm
     refine DW.seq ?_
     refine DW.join (ι := Bool) (fun (y7 : Bool) => mkSt [(2, pB y7)] []) (fun y7 => Check_ref5J7 y7 = some RES) ?_ ?_
     ·intro y7 hm
      unfold Check_ref5J7 at hm
      refine DW.ret ?_
      obtain rfl := Option.some.inj hm
      exact retK [] [] (pB y7)
     ·rcases bt (decide (p0.next > (p0.nodes.getD (Int.toNat (w64 (((p0.nodes.length : Nat) : Int) - 1))) dNode).id)) with h53 | h53
      ·replace hm := if_t h53 hm
       refine RK hnt (nn 14 (pT :: .no :: [])) [(2, pB (decide (p0.next ≤ 2147483648)))] [] (an g52.1 (an g52.2 (an4 h53 trivial))) ?_
       exact joinDone (decide (p0.next ≤ 2147483648)) hm .refl
      ·replace hm := if_f h53 hm
       refine RK hnt (nn 11 (sk 3 (pF :: .no :: []))) [(2, pB false)] [] (an g52.1 (an g52.2 (an4 h53 trivial))) ?_
       exact joinDone false hm .refl

theorem leader_ref6Spec (p0 : List Task) (p1 : Int) (RES : Task × Bool) (hm : leader_ref6 p0 p1 = some RES) : Spec Tryz.prog 111 [.p (slTask p0), pI p1] [] (.p (.tup [.agg (encTask RES.1), vb RES.2])) [] [] := by
 unfold leader_ref6 at hm
 refine SO Tryz.func111 rfl rfl [(0, .p (slTask p0)), (1, pI p1)] [] ?_
 intro cx hnt
 refine DW.seq (RD hnt (nn 2 []) [] [(4, rr 1032)] [] [(1032, bx [pI 0, pI 0, pI 0, pI 0])] trivial ?_)
 refine DW.seq (DW.seq (RD hnt (.no :: []) [] [(6, pI 0)] [] [] trivial ?_))
 refine DW.block ?_
 obtain ⟨hc1, hm⟩ := guard_open hm
 refine DW.rangeO (fun (k1 : Nat) (s1 : Unit) => mkSt [(0, .p (slTask p0)), (1, pI p1), (4, rr 1032), (6, pI ((k1 : Nat) : Int))] [(1032, bx [pI 0, pI 0, pI 0, pI 0])]) dTask hm Conv.eqK ?_
 intro k1 s1 n1 hk1 hs1 he1
 refine DW.seq (DW.seq (RD hnt (nn 4 []) [] [(10, pB (decide (((k1 : Nat) : Int) < ((p0.length : Nat) : Int))))] [] [] trivial ?_))
 refine condK (decide (((k1 : Nat) : Int) < ((p0.length : Nat) : Int))) ?_ ?_
 ·intro h11
  have hlt1 : k1 < p0.length := by have := of_decide_eq_true h11; omega
  have hm := hs1 hlt1
  unfold leader_ref6L1 at hm
  refine DW.skip ?_
  refine DW.seq (DW.block ?_)
  refine DW.seq (RD hnt (nn 7 []) [10] [(19, pB ((p0.getD k1 (default : Task)).id == p1))] [] [] (an (nn0 k1) (an (ltc hlt1) trivial)) ?_)
  refine condM hm ?_ ?_
  ·intro h12 hm
   refine DW.seq (RK hnt (nn 13 []) [(4, rr 1032), (5, pB ((p0.getD k1 (default : Task)).process == p1))] [(1032, bx (pm (encTask (p0.getD k1 (default : Task)))))] (an (nn0 k1) (an (ltc hlt1) (an (nn0 k1) (an (ltc hlt1) trivial)))) ?_)
   refine DW.ret ?_
   obtain rfl := Option.some.inj hm
   exact retK [] [] (.p (.tup [.agg (encTask (p0.getD k1 (default : Task))), vb ((p0.getD k1 (default : Task)).process == p1)]))
  ·intro h12 hm
   refine DW.skip ?_
   refine DW.done ?_
   show DW _ _ _ _ _
   refine RD hnt (nn 3 []) [19] [(6, pI (w64 (((k1 : Nat) : Int) + 1)))] [] [] trivial ?_
   exact joinDone () ⟨hlt1, hm⟩ (Conv.tp [(6, pI (w64 (((k1 : Nat) : Int) + 1)))] [] (by kernel_rfl) (.cons rfl (.of_eq (congrArg pI (w64_succ hlt1 hc1))) .nil) .nil)
 ·intro h11
  have hge1 : ¬ k1 < p0.length := by have := of_decide_eq_false h11; omega
  have hm := he1 hge1
  unfold leader_ref6D1 at hm
  refine DW.exit ?_
  refine joinQ_exit ?_
  refine KQ_exit ?_
  refine blockQ_exit ?_
  show DW _ _ _ _ _
  refine DW.seq (RD hnt (nn 3 []) [0, 1, 6, 10] [(5, pB false)] [] [] trivial ?_)
  refine DW.ret ?_
  obtain rfl := Option.some.inj hm
  exact retK [] [] (.p (.tup [.agg [vi 0, vi 0, vi 0, vi 0], vb false]))

theorem Find_ref5Spec (p0 : Tree) (p1 : Int) (RES : Node × Bool) (hm : Find_ref5 p0 p1 = some RES) : Spec Tryz.prog 135 [.p (.agg (encTree p0)), pI p1] [] (.p (.tup [.agg (encNode RES.1), vb RES.2])) [] [] := by
 unfold Find_ref5 at hm
 refine SO Tryz.func135 rfl rfl [(0, .p (.agg (encTree p0))), (1, pI p1)] [] ?_
 intro cx hnt
 refine DW.seq (RK hnt (nn 3 []) [(1, pI p1), (2, rr 1016), (4, rr 1032)] [(1016, bx (pm (encTree p0))), (1032, bx [pI 0, pI 0, pS ByteArray.empty, pI 0, pI 0, pI 0])] trivial ?_)
 obtain ⟨r1, hr1, hm⟩ := bind_open hm
 refine DW.seq (DW.seq (RD hnt (.no :: .call 110 [] true (pB r1) [] [] :: .no :: []) [] [(9, pB (!r1))] [] [] (an (Check_ref5Spec p0 r1 hr1) trivial) ?_))
 refine condM hm ?_ ?_
 ·intro h2 hm
  refine DW.seq (RD hnt (nn 3 []) [1, 2, 9] [(5, pB false)] [1016] [] trivial ?_)
  refine DW.ret ?_
  obtain rfl := Option.some.inj hm
  exact retK [] [] (.p (.tup [.agg [vi 0, vi 0, vs ByteArray.empty, vi 0, vi 0, vi 0], vb false]))
 ·intro h2 hm
  refine DW.skip ?_
  refine DW.seq (DW.seq (RD hnt (.no :: []) [9] [(6, pI 0)] [] [] trivial ?_))
  refine DW.block ?_
  obtain ⟨hc1, hm⟩ := guard_open hm
  refine DW.rangeO (fun (k1 : Nat) (s1 : Unit) => mkSt [(1, pI p1), (2, rr 1016), (4, rr 1032), (6, pI ((k1 : Nat) : Int))] [(1016, bx (pm (encTree p0))), (1032, bx [pI 0, pI 0, pS ByteArray.empty, pI 0, pI 0, pI 0])]) dNode hm Conv.eqK ?_
  intro k1 s1 n1 hk1 hs1 he1
  refine DW.seq (DW.seq (RD hnt (nn 5 []) [] [(15, pB (decide (((k1 : Nat) : Int) < ((p0.nodes.length : Nat) : Int))))] [] [] trivial ?_))
  refine condK (decide (((k1 : Nat) : Int) < ((p0.nodes.length : Nat) : Int))) ?_ ?_
  ·intro h11
   have hlt1 : k1 < p0.nodes.length := by have := of_decide_eq_true h11; omega
   have hm := hs1 hlt1
   unfold Find_ref5L1 at hm
   refine DW.skip ?_
   refine DW.seq (DW.block ?_)
   refine DW.seq (RD hnt (nn 8 []) [15] [(25, pB ((p0.nodes.getD k1 (default : Node)).id == p1))] [] [] (an (nn0 k1) (an (ltc hlt1) trivial)) ?_)
   refine condM hm ?_ ?_
   ·intro h12 hm
    refine DW.seq (RK hnt (nn 7 []) [(4, rr 1032), (5, pB true)] [(1032, bx (pm (encNode (p0.nodes.getD k1 (default : Node)))))] (an (nn0 k1) (an (ltc hlt1) trivial)) ?_)
    refine DW.ret ?_
    obtain rfl := Option.some.inj hm
    exact retK [] [] (.p (.tup [.agg (encNode (p0.nodes.getD k1 (default : Node))), vb true]))
   ·intro h12 hm
    refine DW.skip ?_
    refine DW.done ?_
    show DW _ _ _ _ _
    refine RD hnt (nn 3 []) [25] [(6, pI (w64 (((k1 : Nat) : Int) + 1)))] [] [] trivial ?_
    exact joinDone () ⟨hlt1, hm⟩ (Conv.tp [(6, pI (w64 (((k1 : Nat) : Int) + 1)))] [] (by kernel_rfl) (.cons rfl (.of_eq (congrArg pI (w64_succ hlt1 hc1))) .nil) .nil)
  ·intro h11
   have hge1 : ¬ k1 < p0.nodes.length := by have := of_decide_eq_false h11; omega
   have hm := he1 hge1
   unfold Find_ref5D1 at hm
   refine DW.exit ?_
   refine joinQ_exit ?_
   refine KQ_exit ?_
   refine blockQ_exit ?_
   show DW _ _ _ _ _
   refine DW.seq (RD hnt (nn 3 []) [1, 2, 6, 15] [(5, pB false)] [1016] [] trivial ?_)
   refine DW.ret ?_
   obtain rfl := Option.some.inj hm
   exact retK [] [] (.p (.tup [.agg [vi 0, vi 0, vs ByteArray.empty, vi 0, vi 0, vi 0], vb false]))

theorem Has_ref5Spec (p0 : Tree) (p1 : Int) (RES : Bool) (hm : Has_ref5 p0 p1 = some RES) : Spec Tryz.prog 88 [.p (.agg (encTree p0)), pI p1] [] (pB RES) [] [] := by
 unfold Has_ref5 at hm
 refine SO Tryz.func88 rfl rfl [(0, .p (.agg (encTree p0))), (1, pI p1)] [] ?_
 intro cx hnt
 refine DW.seq (RK hnt (nn 2 []) [(1, pI p1), (2, rr 1016)] [(1016, bx (pm (encTree p0)))] trivial ?_)
 obtain ⟨r1, hr1, hm⟩ := bind_open hm
 refine DW.seq (RK hnt (nn 2 (.call 135 [] true (.p (.tup [.agg (encNode r1.1), vb r1.2])) [] [] :: nn 6 [])) [(6, pB r1.2)] [] (an (Find_ref5Spec p0 p1 r1 hr1) trivial) ?_)
 refine DW.seq (RK hnt (nn 2 []) [(4, pB r1.2)] [] trivial ?_)
 refine DW.ret ?_
 obtain rfl := Option.some.inj hm
 exact retK [] [] (pB r1.2)

abbrev c52e1 (p0 : Hierarchy) (k1 : Nat) := (p0.tasks.getD k1 (default : Task))
abbrev c52e2 (p0 : Hierarchy) : Nat × MV := (3, pI ((p0.tasks.length : Nat) : Int))
theorem Check_ref6Spec (p0 : Hierarchy) (RES : Bool) (hm : Check_ref6 p0 = some RES) : Spec Tryz.prog 52 [.p (.agg (encHierarchy p0))] [] (pB RES) [] [] := by
 unfold Check_ref6 at hm
 refine SO Tryz.func52 rfl rfl [(0, .p (.agg (encHierarchy p0)))] [] ?_
 intro cx hnt
 refine DW.seq (RK hnt (nn 2 []) [(1, rr 1008)] [(1008, bx (pm (encHierarchy p0)))] trivial ?_)
 refine DW.seq (RD hnt (nn 4 []) [] [(c52e2 p0)] [] [] trivial ?_)
 obtain ⟨r1, hr1, hm⟩ := bind_open hm
 refine DW.seq (DW.seq ?_)
 refine DW.join (ι := Bool) (fun (y1 : Bool) => mkSt [(1, rr 1008), (c52e2 p0), (44, pB y1)] [(1008, bx (pm (encHierarchy p0)))]) (fun y1 => (Check_ref6J1 p0) y1 = some RES) ?_ ?_
 ·intro y1 hm
  unfold Check_ref6J1 at hm
  refine condM hm ?_ ?_
  ·intro h8 hm
   refine DW.seq (RK hnt (.no :: []) [(2, pB false)] [] trivial ?_)
   refine DW.ret ?_
   obtain rfl := Option.some.inj hm
   exact retK [] [] (pB false)
  ·intro h8 hm
   refine DW.skip ?_
   refine DW.seq (DW.seq (RD hnt (.no :: []) [44] [(4, pI 0)] [] [] trivial ?_))
   refine DW.block ?_
   obtain ⟨hc1, hm⟩ := guard_open hm
   refine DW.rangeO (fun (k1 : Nat) (s1 : Unit) => mkSt [(1, rr 1008), (c52e2 p0), (4, pI ((k1 : Nat) : Int))] [(1008, bx (pm (encHierarchy p0)))]) dTask hm Conv.eqK ?_
   intro k1 s1 n1 hk1 hs1 he1
   refine DW.seq (DW.seq (RD hnt (nn 3 []) [] [(47, pB (decide (((k1 : Nat) : Int) < ((p0.tasks.length : Nat) : Int))))] [] [] trivial ?_))
   refine condK (decide (((k1 : Nat) : Int) < ((p0.tasks.length : Nat) : Int))) ?_ ?_
   ·intro h45
    have hlt1 : k1 < p0.tasks.length := by have := of_decide_eq_true h45; omega
    have hm := hs1 hlt1
    unfold Check_ref6L1 at hm
    refine DW.skip ?_
    refine DW.seq (DW.block ?_)
    refine DW.seq (RD hnt (nn 7 []) [47] [(5, rr 1040)] [] [(1040, bx (pm (encTask (c52e1 p0 k1))))] (an (nn0 k1) (an (ltc hlt1) trivial)) ?_)
    obtain ⟨r46, hr46, hm⟩ := bind_open hm
    refine DW.seq (RD hnt (nn 4 (.call 111 [] true (.p (.tup [.agg (encTask r46.1), vb r46.2])) [] [] :: nn 6 [])) [] [(6, rr 1048), (7, pB r46.2)] [] [(1048, bx (pm (encTask r46.1)))] (an (leader_ref6Spec p0.tasks (c52e1 p0 k1).process r46 hr46) trivial) ?_)
    refine DW.seq ?_
    refine DW.join (ι := Bool) (fun (y4 : Bool) => mkSt [(1, rr 1008), (c52e2 p0), (4, pI ((k1 : Nat) : Int)), (110, pB y4)] [(1008, bx (pm (encHierarchy p0)))]) (fun y4 => (Check_ref6J4 n1) y4 = some RES) ?_ ?_
    ·intro y4 hm
     unfold Check_ref6J4 at hm
     refine condM hm ?_ ?_
     ·intro h61 hm
      refine DW.seq (RK hnt (.no :: []) [(2, pB false)] [] trivial ?_)
      refine DW.ret ?_
      obtain rfl := Option.some.inj hm
      exact retK [] [] (pB false)
     ·intro h61 hm
      refine DW.skip ?_
      refine DW.done ?_
      show DW _ _ _ _ _
      refine RD hnt (nn 3 []) [110] [(4, pI (w64 (((k1 : Nat) : Int) + 1)))] [] [] trivial ?_
      exact joinDone () ⟨hlt1, hm⟩ (Conv.tp [(4, pI (w64 (((k1 : Nat) : Int) + 1)))] [] (by kernel_rfl) (.cons rfl (.of_eq (congrArg pI (w64_succ hlt1 hc1))) .nil) .nil)
    ·rcases bt (decide ((c52e1 p0 k1).id < 1)) with h47 | h47
     ·replace hm := if_t h47 hm
      refine RD hnt (nn 4 (sk 14 (pT :: .no :: sk 6 (pT :: .no :: sk 3 (pT :: .no :: sk 3 (pT :: .no :: sk 2 (pT :: .no :: sk 5 (pT :: [])))))))) [5, 6, 7] [(110, pB true)] [1040, 1048] [] (an5 h47 (an6 tt (an6 tt (an6 tt (an6 tt trivial))))) ?_
      exact joinDone true hm Conv.eqK
     ·replace hm := if_f h47 hm
      rcases bt (decide (((k1 : Nat) : Int) > 0)) with h48 | h48
      ·replace hm := if_t h48 hm
       obtain ⟨g49, hm⟩ := guard_open hm
       rcases bt (decide ((p0.tasks.getD (Int.toNat (w64 (((k1 : Nat) : Int) - 1))) dTask).id ≥ (c52e1 p0 k1).id)) with h50 | h50
       ·replace hm := if_t h50 hm
        refine RD hnt (nn 17 (pT :: pF :: .no :: sk 6 (pT :: .no :: sk 3 (pT :: .no :: sk 3 (pT :: .no :: sk 2 (pT :: .no :: sk 5 (pT :: []))))))) [5, 6, 7] [(110, pB true)] [1040, 1048] [] (an3 h47 (an5 h48 (an g49.1 (an g49.2 (an5 h48 (an h47 (an h48 (an h47 (an h50 (an6 h50 (an5 tt (an6 tt (an6 tt trivial))))))))))))) ?_
        exact joinDone true hm Conv.eqK
       ·replace hm := if_f h50 hm
        obtain ⟨r51, hr51, hm⟩ := bind_open hm
        rcases bt (!r51) with h52 | h52
        ·replace hm := if_t h52 hm
         refine RD hnt (nn 17 (pT :: pF :: nn 5 (.call 88 [] true (pB r51) [] [] :: .no :: pF :: .no :: sk 3 (pT :: .no :: sk 3 (pT :: .no :: sk 2 (pT :: .no :: sk 5 (pT :: []))))))) [5, 6, 7] [(110, pB true)] [1040, 1048] [] (an3 h47 (an5 h48 (an g49.1 (an g49.2 (an5 h48 (an h47 (an h48 (an h47 (an5 h50 (an (Has_ref5Spec p0.tree (c52e1 p0 k1).group r51 hr51) (an2 h50 (an4 h52 (an tt (an6 tt (an6 tt trivial))))))))))))))) ?_
         exact joinDone true hm Conv.eqK
        ·replace hm := if_f h52 hm
         rcases bt (decide ((c52e1 p0 k1).user < 0)) with h53 | h53
         ·replace hm := if_t h53 hm
          refine RD hnt (nn 17 (pT :: pF :: nn 5 (.call 88 [] true (pB r51) [] [] :: .no :: pF :: nn 4 (pF :: .no :: sk 3 (pT :: .no :: sk 2 (pT :: .no :: sk 5 (pT :: []))))))) [5, 6, 7] [(110, pB true)] [1040, 1048] [] (an3 h47 (an5 h48 (an g49.1 (an g49.2 (an5 h48 (an h47 (an h48 (an h47 (an5 h50 (an (Has_ref5Spec p0.tree (c52e1 p0 k1).group r51 hr51) (an2 h50 (an4 h52 (an4 h53 (an3 tt (an6 tt trivial))))))))))))))) ?_
          exact joinDone true hm Conv.eqK
         ·replace hm := if_f h53 hm
          rcases bt (decide ((c52e1 p0 k1).user > 1048576)) with h54 | h54
          ·replace hm := if_t h54 hm
           refine RD hnt (nn 17 (pT :: pF :: nn 5 (.call 88 [] true (pB r51) [] [] :: .no :: pF :: nn 4 (pF :: nn 4 (pF :: .no :: sk 2 (pT :: .no :: sk 5 (pT :: []))))))) [5, 6, 7] [(110, pB true)] [1040, 1048] [] (an3 h47 (an5 h48 (an g49.1 (an g49.2 (an5 h48 (an h47 (an h48 (an h47 (an5 h50 (an (Has_ref5Spec p0.tree (c52e1 p0 k1).group r51 hr51) (an2 h50 (an4 h52 (an4 h53 (an3 h54 (an6 tt trivial))))))))))))))) ?_
           exact joinDone true hm Conv.eqK
          ·replace hm := if_f h54 hm
           rcases bt (!r46.2) with h55 | h55
           ·replace hm := if_t h55 hm
            refine RD hnt (nn 17 (pT :: pF :: nn 5 (.call 88 [] true (pB r51) [] [] :: .no :: pF :: nn 4 (pF :: nn 4 (pF :: nn 3 (pF :: .no :: sk 5 (pT :: []))))))) [5, 6, 7] [(110, pB true)] [1040, 1048] [] (an3 h47 (an5 h48 (an g49.1 (an g49.2 (an5 h48 (an h47 (an h48 (an h47 (an5 h50 (an (Has_ref5Spec p0.tree (c52e1 p0 k1).group r51 hr51) (an2 h50 (an4 h52 (an4 h53 (an3 h54 (an6 h55 trivial))))))))))))))) ?_
            exact joinDone true hm Conv.eqK
           ·replace hm := if_f h55 hm
            refine RD hnt (nn 17 (pT :: pF :: nn 5 (.call 88 [] true (pB r51) [] [] :: .no :: pF :: nn 4 (pF :: nn 4 (pF :: nn 3 (pF :: nn 6 (pF :: []))))))) [5, 6, 7] [(110, pB (r46.1.user != (c52e1 p0 k1).user))] [1040, 1048] [] (an3 h47 (an5 h48 (an g49.1 (an g49.2 (an5 h48 (an h47 (an h48 (an h47 (an5 h50 (an (Has_ref5Spec p0.tree (c52e1 p0 k1).group r51 hr51) (an2 h50 (an4 h52 (an4 h53 (an3 h54 (an6 h55 trivial))))))))))))))) ?_
            exact joinDone (r46.1.user != (c52e1 p0 k1).user) hm Conv.eqK
      ·replace hm := if_f h48 hm
       obtain ⟨r56, hr56, hm⟩ := bind_open hm
       rcases bt (!r56) with h57 | h57
       ·replace hm := if_t h57 hm
        refine RD hnt (nn 7 (sk 10 (pF :: pF :: nn 5 (.call 88 [] true (pB r56) [] [] :: .no :: pF :: .no :: sk 3 (pT :: .no :: sk 3 (pT :: .no :: sk 2 (pT :: .no :: sk 5 (pT :: [])))))))) [5, 6, 7] [(110, pB true)] [1040, 1048] [] (an3 h47 (an4 h48 (an6 h48 (an h47 (an h48 (an h47 (an5 ff (an (Has_ref5Spec p0.tree (c52e1 p0 k1).group r56 hr56) (an2 ff (an4 h57 (an tt (an6 tt (an6 tt trivial))))))))))))) ?_
        exact joinDone true hm Conv.eqK
       ·replace hm := if_f h57 hm
        rcases bt (decide ((c52e1 p0 k1).user < 0)) with h58 | h58
        ·replace hm := if_t h58 hm
         refine RD hnt (nn 7 (sk 10 (pF :: pF :: nn 5 (.call 88 [] true (pB r56) [] [] :: .no :: pF :: nn 4 (pF :: .no :: sk 3 (pT :: .no :: sk 2 (pT :: .no :: sk 5 (pT :: [])))))))) [5, 6, 7] [(110, pB true)] [1040, 1048] [] (an3 h47 (an4 h48 (an6 h48 (an h47 (an h48 (an h47 (an5 ff (an (Has_ref5Spec p0.tree (c52e1 p0 k1).group r56 hr56) (an2 ff (an4 h57 (an4 h58 (an3 tt (an6 tt trivial))))))))))))) ?_
         exact joinDone true hm Conv.eqK
        ·replace hm := if_f h58 hm
         rcases bt (decide ((c52e1 p0 k1).user > 1048576)) with h59 | h59
         ·replace hm := if_t h59 hm
          refine RD hnt (nn 7 (sk 10 (pF :: pF :: nn 5 (.call 88 [] true (pB r56) [] [] :: .no :: pF :: nn 4 (pF :: nn 4 (pF :: .no :: sk 2 (pT :: .no :: sk 5 (pT :: [])))))))) [5, 6, 7] [(110, pB true)] [1040, 1048] [] (an3 h47 (an4 h48 (an6 h48 (an h47 (an h48 (an h47 (an5 ff (an (Has_ref5Spec p0.tree (c52e1 p0 k1).group r56 hr56) (an2 ff (an4 h57 (an4 h58 (an3 h59 (an6 tt trivial))))))))))))) ?_
          exact joinDone true hm Conv.eqK
         ·replace hm := if_f h59 hm
          rcases bt (!r46.2) with h60 | h60
          ·replace hm := if_t h60 hm
           refine RD hnt (nn 7 (sk 10 (pF :: pF :: nn 5 (.call 88 [] true (pB r56) [] [] :: .no :: pF :: nn 4 (pF :: nn 4 (pF :: nn 3 (pF :: .no :: sk 5 (pT :: [])))))))) [5, 6, 7] [(110, pB true)] [1040, 1048] [] (an3 h47 (an4 h48 (an6 h48 (an h47 (an h48 (an h47 (an5 ff (an (Has_ref5Spec p0.tree (c52e1 p0 k1).group r56 hr56) (an2 ff (an4 h57 (an4 h58 (an3 h59 (an6 h60 trivial))))))))))))) ?_
           exact joinDone true hm Conv.eqK
          ·replace hm := if_f h60 hm
           refine RD hnt (nn 7 (sk 10 (pF :: pF :: nn 5 (.call 88 [] true (pB r56) [] [] :: .no :: pF :: nn 4 (pF :: nn 4 (pF :: nn 3 (pF :: nn 6 (pF :: [])))))))) [5, 6, 7] [(110, pB (r46.1.user != (c52e1 p0 k1).user))] [1040, 1048] [] (an3 h47 (an4 h48 (an6 h48 (an h47 (an h48 (an h47 (an5 ff (an (Has_ref5Spec p0.tree (c52e1 p0 k1).group r56 hr56) (an2 ff (an4 h57 (an4 h58 (an3 h59 (an6 h60 trivial))))))))))))) ?_
           exact joinDone (r46.1.user != (c52e1 p0 k1).user) hm Conv.eqK
   ·intro h45
    have hge1 : ¬ k1 < p0.tasks.length := by have := of_decide_eq_false h45; omega
    have hm := he1 hge1
    unfold Check_ref6D1 at hm
    refine DW.exit ?_
    refine joinQ_exit ?_
    refine KQ_exit ?_
    refine blockQ_exit ?_
    show DW _ _ _ _ _
    refine DW.seq (RK hnt (.no :: []) [(2, pB true)] [] trivial ?_)
    refine DW.ret ?_
    obtain rfl := Option.some.inj hm
    exact retK [] [] (pB true)
 ·rcases bt (!r1) with h2 | h2
  ·replace hm := if_t h2 hm
   refine RD hnt (nn 2 (.call 110 [] true (pB r1) [] [] :: nn 2 (sk 2 (pT :: .no :: sk 3 (pT :: .no :: sk 3 (pT :: .no :: sk 14 (pT :: []))))))) [] [(44, pB true)] [] [] (an (Check_ref5Spec p0.tree r1 hr1) (an3 h2 (an tt (an6 tt (an6 tt trivial))))) ?_
   exact joinDone true hm Conv.eqK
  ·replace hm := if_f h2 hm
   rcases bt (decide (((p0.tasks.length : Nat) : Int) > 128)) with h3 | h3
   ·replace hm := if_t h3 hm
    refine RD hnt (nn 2 (.call 110 [] true (pB r1) [] [] :: nn 4 (pF :: .no :: sk 3 (pT :: .no :: sk 3 (pT :: .no :: sk 14 (pT :: [])))))) [] [(44, pB true)] [] [] (an (Check_ref5Spec p0.tree r1 hr1) (an3 h2 (an4 h3 (an3 tt (an6 tt trivial))))) ?_
    exact joinDone true hm Conv.eqK
   ·replace hm := if_f h3 hm
    rcases bt (decide (p0.next < 1)) with h4 | h4
    ·replace hm := if_t h4 hm
     refine RD hnt (nn 2 (.call 110 [] true (pB r1) [] [] :: nn 4 (pF :: nn 4 (pF :: .no :: sk 3 (pT :: .no :: sk 14 (pT :: [])))))) [] [(44, pB true)] [] [] (an (Check_ref5Spec p0.tree r1 hr1) (an3 h2 (an4 h3 (an4 h4 (an5 tt trivial))))) ?_
     exact joinDone true hm Conv.eqK
    ·replace hm := if_f h4 hm
     rcases bt (decide (p0.next > 2147483648)) with h5 | h5
     ·replace hm := if_t h5 hm
      refine RD hnt (nn 2 (.call 110 [] true (pB r1) [] [] :: nn 4 (pF :: nn 4 (pF :: nn 4 (pF :: .no :: sk 14 (pT :: [])))))) [] [(44, pB true)] [] [] (an (Check_ref5Spec p0.tree r1 hr1) (an3 h2 (an4 h3 (an4 h4 (an5 h5 trivial))))) ?_
      exact joinDone true hm Conv.eqK
     ·replace hm := if_f h5 hm
      rcases bt (decide (((p0.tasks.length : Nat) : Int) > 0)) with h6 | h6
      ·replace hm := if_t h6 hm
       obtain ⟨g7, hm⟩ := guard_open hm
       refine RD hnt (nn 2 (.call 110 [] true (pB r1) [] [] :: nn 4 (pF :: nn 4 (pF :: nn 4 (pF :: nn 14 (pT :: pF :: [])))))) [] [(44, pB (decide (p0.next ≤ (p0.tasks.getD (Int.toNat (w64 (((p0.tasks.length : Nat) : Int) - 1))) dTask).id)))] [] [] (an (Check_ref5Spec p0.tree r1 hr1) (an3 h2 (an4 h3 (an4 h4 (an3 h5 (an h6 (an6 h6 (an g7.1 (an g7.2 (an3 h6 (an h5 (an h6 (an h5 trivial))))))))))))) ?_
       exact joinDone (decide (p0.next ≤ (p0.tasks.getD (Int.toNat (w64 (((p0.tasks.length : Nat) : Int) - 1))) dTask).id)) hm Conv.eqK
      ·replace hm := if_f h6 hm
       refine RD hnt (nn 2 (.call 110 [] true (pB r1) [] [] :: nn 4 (pF :: nn 4 (pF :: nn 4 (pF :: nn 4 (sk 10 (pF :: pF :: []))))))) [] [(44, pB false)] [] [] (an (Check_ref5Spec p0.tree r1 hr1) (an3 h2 (an4 h3 (an4 h4 (an3 h5 (an4 h6 (an6 h6 (an h5 (an h6 (an h5 trivial)))))))))) ?_
       exact joinDone false hm Conv.eqK

theorem Acting_ref7Spec (p0 : Tree) (p1 : Int) (RES : Int) (hm : Acting_ref7 p0 p1 = some RES) : Spec Tryz.prog 189 [.p (.agg (encTree p0)), pI p1] [] (pI RES) [] [] := by
 unfold Acting_ref7 at hm
 refine SO Tryz.func189 rfl rfl [(0, .p (.agg (encTree p0))), (1, pI p1)] [] ?_
 intro cx hnt
 refine DW.seq (RK hnt (nn 2 []) [(1, pI p1), (2, rr 1016)] [(1016, bx (pm (encTree p0)))] trivial ?_)
 obtain ⟨r1, hr1, hm⟩ := bind_open hm
 refine DW.seq (RD hnt (nn 2 (.call 135 [] true (.p (.tup [.agg (encNode r1.1), vb r1.2])) [] [] :: nn 6 [])) [] [(5, rr 1040), (6, pB r1.2)] [] [(1040, bx (pm (encNode r1.1)))] (an (Find_ref5Spec p0 p1 r1 hr1) trivial) ?_)
 refine DW.seq (DW.seq (DW.regJ (sl2 := [(2, rr 1016), (5, rr 1040), (20, pB ((!r1.2) || (p1 == 1)))]) (ob2 := [(1016, bx (pm (encTree p0))), (1040, bx (pm (encNode r1.1)))]) ?_ ?_))
 ·rcases bt (!r1.2) with h2 | h2
  ·exact RT hnt (nn 3 (sk 2 (pT :: []))) [(20, pB true)] (an3 h2 trivial) (by kernel_rfl) (.cons rfl (.of_eq (by rw [h2]; try rfl)) .nil)
  ·exact RT hnt (nn 5 (pF :: [])) [(20, pB (p1 == 1))] (an3 h2 trivial) (by kernel_rfl) (.cons rfl (.of_eq (by rw [h2]; try rfl)) .nil)
 ·refine condM hm ?_ ?_
  ·intro h3 hm
   refine DW.seq (RK hnt (.no :: []) [(4, pI 0)] [] trivial ?_)
   refine DW.ret ?_
   obtain rfl := Option.some.inj hm
   exact retK [] [] (pI 0)
  ·intro h3 hm
   refine DW.skip ?_
   obtain ⟨r4, hr4, hm⟩ := bind_open hm
   refine DW.seq (RD hnt (nn 3 (.call 135 [] true (.p (.tup [.agg (encNode r4.1), vb r4.2])) [] [] :: nn 6 [])) [2, 20] [(7, rr 1056)] [1016] [(1056, bx (pm (encNode r4.1)))] (an (Find_ref5Spec p0 r1.1.parent r4 hr4) trivial) ?_)
   refine DW.seq (DW.seq (RD hnt (nn 3 []) [5] [(30, pB (r1.1.kind == 1))] [1040] [] trivial ?_))
   refine condM hm ?_ ?_
   ·intro h5 hm
    refine DW.seq (RK hnt (nn 4 []) [(4, pI (kandNot .i64 r4.1.control 6))] [] trivial ?_)
    refine DW.ret ?_
    obtain rfl := Option.some.inj hm
    exact retK [] [] (pI (kandNot .i64 r4.1.control 6))
   ·intro h5 hm
    refine DW.skip ?_
    refine DW.seq (RK hnt (nn 3 []) [(4, pI r4.1.control)] [] trivial ?_)
    refine DW.ret ?_
    obtain rfl := Option.some.inj hm
    exact retK [] [] (pI r4.1.control)

theorem Available_ref7Spec (p0 : Tree) (p1 : Int) (RES : Int) (hm : Available_ref7 p0 p1 = some RES) : Spec Tryz.prog 174 [.p (.agg (encTree p0)), pI p1] [] (pI RES) [] [] := by
 unfold Available_ref7 at hm
 refine SO Tryz.func174 rfl rfl [(0, .p (.agg (encTree p0))), (1, pI p1)] [] ?_
 intro cx hnt
 refine DW.seq (RK hnt (nn 2 []) [(1, pI p1), (2, rr 1016)] [(1016, bx (pm (encTree p0)))] trivial ?_)
 obtain ⟨r1, hr1, hm⟩ := bind_open hm
 refine DW.seq (RD hnt (nn 2 (.call 135 [] true (.p (.tup [.agg (encNode r1.1), vb r1.2])) [] [] :: nn 6 [])) [] [(5, rr 1040), (6, pB r1.2)] [] [(1040, bx (pm (encNode r1.1)))] (an (Find_ref5Spec p0 p1 r1 hr1) trivial) ?_)
 refine DW.seq (DW.seq (RD hnt (nn 2 []) [6] [(15, pB (!r1.2))] [] [] trivial ?_))
 refine condM hm ?_ ?_
 ·intro h2 hm
  refine DW.seq (RK hnt (.no :: []) [(4, pI 0)] [] trivial ?_)
  refine DW.ret ?_
  obtain rfl := Option.some.inj hm
  exact retK [] [] (pI 0)
 ·intro h2 hm
  refine DW.skip ?_
  refine DW.seq (RD hnt (.no :: []) [15] [(7, pI 31)] [] [] trivial ?_)
  refine DW.seq (DW.seq (RD hnt (nn 2 []) [] [(17, pB (p1 != 1))] [] [] trivial ?_))
  refine DW.join (ι := Int) (fun (y1 : Int) => mkSt [(5, rr 1040), (7, pI y1)] [(1040, bx (pm (encNode r1.1)))]) (fun y1 => (Available_ref7J1 r1) y1 = some RES) ?_ ?_
  ·intro y1 hm
   unfold Available_ref7J1 at hm
   refine DW.seq (DW.seq (RK hnt (nn 3 []) [(7, pI y1), (23, pB (r1.1.kind == 1))] [] trivial ?_))
   refine DW.join (ι := Int) (fun (y2 : Int) => mkSt [(7, pI y2)] []) (fun y2 => Available_ref7J2 y2 = some RES) ?_ ?_
   ·intro y2 hm
    unfold Available_ref7J2 at hm
    refine DW.seq (RK hnt (nn 2 []) [(4, pI y2)] [] trivial ?_)
    refine DW.ret ?_
    obtain rfl := Option.some.inj hm
    exact retK [] [] (pI y2)
   ·refine condM hm ?_ ?_
    ·intro h5 hm
     refine RK hnt (nn 3 []) [(7, pI (kandNot .i64 y1 6))] [] trivial ?_
     exact joinDone (kandNot .i64 y1 6) hm .refl
    ·intro h5 hm
     refine DW.skip ?_
     exact joinDone y1 hm Conv.t0
  ·refine condM hm ?_ ?_
   ·intro h3 hm
    obtain ⟨r4, hr4, hm⟩ := bind_open hm
    refine RD hnt (nn 2 (.call 189 [] true (pI r4) [] [] :: .no :: [])) [1, 2, 17] [(7, pI r4)] [1016] [] (an (Acting_ref7Spec p0 p1 r4 hr4) trivial) ?_
    exact joinDone r4 hm Conv.eqK
   ·intro h3 hm
    refine DW.skip ?_
    exact joinDone 31 hm Conv.t0

abbrev c26e1 (p0 : Hierarchy) (k1 : Nat) := (p0.tasks.getD k1 (default : Task))
abbrev c26e2 (p0 : Hierarchy) : Nat × Obj := (1016, bx (pm (encHierarchy p0)))
theorem Tasks_ref6Spec (p0 : Hierarchy) (p1 : Int) (RES : List Int) (hm : Tasks_ref6 p0 p1 = some RES) : Spec Tryz.prog 26 [.p (.agg (encHierarchy p0)), pI p1] [] (ow 0 RES.length) [] [roI RES] := by
 unfold Tasks_ref6 at hm
 refine SO Tryz.func26 rfl rfl [(0, .p (.agg (encHierarchy p0))), (1, pI p1)] [] ?_
 intro cx hnt
 refine DW.seq (RK hnt (nn 2 []) [(1, pI p1), (2, rr 1016)] [(c26e2 p0)] trivial ?_)
 obtain ⟨r1, hr1, hm⟩ := bind_open hm
 refine DW.seq (DW.seq (RD hnt (.no :: .call 52 [] true (pB r1) [] [] :: .no :: []) [] [(9, pB (!r1))] [] [] (an (Check_ref6Spec p0 r1 hr1) trivial) ?_))
 refine condM hm ?_ ?_
 ·intro h2 hm
  refine DW.seq (RK hnt (.no :: []) [(4, .p (.sl .nil 0 0 (fun _ => [])))] [] trivial ?_)
  refine DW.conv (τ := mkSt [(4, ow 100000 0)] [(100000, ob0 (roI []))]) (Conv.trans (τ := mkSt [(4, ow 100000 0)] ((100000, ⟨0, .row 1 0 (elems encI 0 [])⟩) :: [])) (Conv.adopt 100000 1 (elems encI 0 []) rfl rfl (.cons (.one (.nil _ _)) (.rfl _)) (.rfl _)) Conv.t0) ?_
  refine DW.ret ?_
  obtain rfl := Option.some.inj hm
  exact retK [roI []] [100000] (ow 0 0)
 ·intro h2 hm
  refine DW.skip ?_
  refine DW.seq (RD hnt (.no :: []) [9] [(5, .p (.sl .nil 0 0 (fun _ => [])))] [] [] trivial ?_)
  refine DW.seq (DW.seq (RD hnt (.no :: []) [] [(6, pI 0)] [] [] trivial ?_))
  refine DW.block ?_
  obtain ⟨hc1, hm⟩ := guard_open hm
  refine DW.rangeO (fun (k1 : Nat) (s1 : List Int) => mkSt [(1, pI p1), (2, rr 1016), (5, ow 1264 s1.length), (6, pI ((k1 : Nat) : Int))] [(c26e2 p0), (1264, ob0 (roI s1))]) dTask hm (Conv.trans (τ := mkSt [(1, pI p1), (2, rr 1016), (5, .p (.sl .nil 0 0 (fun _ => []))), (6, pI 0)] [(c26e2 p0)]) Conv.eqK (Conv.trans (τ := mkSt [(1, pI p1), (2, rr 1016), (5, ow 1264 0), (6, pI 0)] ((1264, ⟨0, .row 1 0 (elems encI 0 [])⟩) :: [(c26e2 p0)])) (Conv.adopt 1264 1 (elems encI 0 []) rfl rfl (.cons (.one (.rfl _)) (.cons (.one (.rfl _)) (.cons (.one (.nil _ _)) (.cons (.one (.rfl _)) (.rfl _))))) (.rfl _)) Conv.t0)) ?_
  intro k1 s1 n1 hk1 hs1 he1
  refine DW.seq (DW.seq (RD hnt (nn 5 []) [] [(14, pB (decide (((k1 : Nat) : Int) < ((p0.tasks.length : Nat) : Int))))] [] [] trivial ?_))
  refine condK (decide (((k1 : Nat) : Int) < ((p0.tasks.length : Nat) : Int))) ?_ ?_
  ·intro h12
   have hlt1 : k1 < p0.tasks.length := by have := of_decide_eq_true h12; omega
   have hm := hs1 hlt1
   unfold Tasks_ref6L1 at hm
   refine DW.skip ?_
   refine DW.seq ?_
   refine DW.join (ι := List Int) (fun (y3 : List Int) => mkSt [(1, pI p1), (2, rr 1016), (5, ow 1264 y3.length), (6, pI ((k1 : Nat) : Int))] [(c26e2 p0), (1264, ob0 (roI y3))]) (fun y3 => (Tasks_ref6J3 n1) y3 = some RES) ?_ ?_
   ·intro y3 hm
    unfold Tasks_ref6J3 at hm
    refine RD hnt (nn 3 []) [] [(6, pI (w64 (((k1 : Nat) : Int) + 1)))] [] [] trivial ?_
    exact joinDone y3 ⟨hlt1, hm⟩ (Conv.tp [(6, pI (w64 (((k1 : Nat) : Int) + 1)))] [] (by kernel_rfl) (.cons rfl (.of_eq (congrArg pI (w64_succ hlt1 hc1))) .nil) .nil)
   ·refine DW.block ?_
    refine DW.seq (RD hnt (nn 8 []) [14] [(24, pB ((c26e1 p0 k1).group == p1))] [] [] (an (nn0 k1) (an (ltc hlt1) trivial)) ?_)
    refine condM hm ?_ ?_
    ·intro h13 hm
     obtain ⟨g14, hm⟩ := guard_open hm
     refine RN hnt (nn 10 []) [(1, pI p1), (2, rr 1016), (5, ow 1264 (s1 ++ [(c26e1 p0 k1).id]).length), (6, pI ((k1 : Nat) : Int))] [(c26e2 p0), (1264, ob0 (roI (s1 ++ [(c26e1 p0 k1).id])))] [(5, ow 1264 (s1.length + 1))] [(1264, .row 1 (s1.length + 1) (catF s1.length (elI s1) (cut 1 [vi (c26e1 p0 k1).id])))] (an (nn0 k1) (an (ltc hlt1) (an (by omega : (s1.length + 1) * 8 ≤ 140737488355328) trivial))) (by kernel_rfl) (.cons rfl (MLe.ownLen (enc := encI) (d := 0) (f := (catF s1.length (elI s1) (cut 1 [vi (c26e1 p0 k1).id]))) (RowIs.cat RowIs.elems (RowIs.lit (enc := encI) (d := 0) (n := 1) (f := (cut 1 [vi (c26e1 p0 k1).id])) [(c26e1 p0 k1).id] rfl (fun | 0, _ => rfl | n + 1, h => absurd h (by omega))))) .nil) (.cons rfl (BLe.typed (RowIs.cat RowIs.elems (RowIs.lit (enc := encI) (d := 0) (n := 1) (f := (cut 1 [vi (c26e1 p0 k1).id])) [(c26e1 p0 k1).id] rfl (fun | 0, _ => rfl | n + 1, h => absurd h (by omega))))) .nil) ?_
     exact blockDone (s1 ++ [(c26e1 p0 k1).id]) hm .refl
    ·intro h13 hm
     refine DW.skip ?_
     exact blockDone s1 hm Conv.t0
  ·intro h12
   have hge1 : ¬ k1 < p0.tasks.length := by have := of_decide_eq_false h12; omega
   have hm := he1 hge1
   unfold Tasks_ref6D1 at hm
   refine DW.exit ?_
   refine joinQ_exit ?_
   refine KQ_exit ?_
   refine blockQ_exit ?_
   show DW _ _ _ _ _
   refine DW.seq (RK hnt (nn 2 []) [(4, ow 1264 s1.length)] [(1264, ob0 (roI s1))] trivial ?_)
   refine DW.ret ?_
   obtain rfl := Option.some.inj hm
   exact retK [roI s1] [1264] (ow 0 s1.length)

abbrev c162e1 (p0 : Hierarchy) (k1 : Nat) := (p0.tree.nodes.getD k1 (default : Node))
theorem Sound_ref7Spec (p0 : Hierarchy) (RES : Bool) (hm : Sound_ref7 p0 = some RES) : Spec Tryz.prog 162 [.p (.agg (encHierarchy p0))] [] (pB RES) [] [] := by
 unfold Sound_ref7 at hm
 refine SO Tryz.func162 rfl rfl [(0, .p (.agg (encHierarchy p0)))] [] ?_
 intro cx hnt
 refine DW.seq (RK hnt (nn 2 []) [(1, rr 1008)] [(1008, bx (pm (encHierarchy p0)))] trivial ?_)
 obtain ⟨r1, hr1, hm⟩ := bind_open hm
 refine DW.seq (DW.seq (RD hnt (.no :: .call 52 [] true (pB r1) [] [] :: .no :: []) [] [(7, pB (!r1))] [] [] (an (Check_ref6Spec p0 r1 hr1) trivial) ?_))
 refine condM hm ?_ ?_
 ·intro h2 hm
  refine DW.seq (RK hnt (.no :: []) [(2, pB false)] [] trivial ?_)
  refine DW.ret ?_
  obtain rfl := Option.some.inj hm
  exact retK [] [] (pB false)
 ·intro h2 hm
  refine DW.skip ?_
  refine DW.seq (DW.seq (RD hnt (.no :: []) [7] [(3, pI 0)] [] [] trivial ?_))
  refine DW.block ?_
  obtain ⟨hc1, hm⟩ := guard_open hm
  refine DW.rangeO (fun (k1 : Nat) (s1 : Unit) => mkSt [(1, rr 1008), (3, pI ((k1 : Nat) : Int))] [(1008, bx (pm (encHierarchy p0)))]) dNode hm Conv.eqK ?_
  intro k1 s1 n1 hk1 hs1 he1
  refine DW.seq (DW.seq (RD hnt (nn 6 []) [] [(13, pB (decide (((k1 : Nat) : Int) < ((p0.tree.nodes.length : Nat) : Int))))] [] [] trivial ?_))
  refine condK (decide (((k1 : Nat) : Int) < ((p0.tree.nodes.length : Nat) : Int))) ?_ ?_
  ·intro h19
   have hlt1 : k1 < p0.tree.nodes.length := by have := of_decide_eq_true h19; omega
   have hm := hs1 hlt1
   unfold Sound_ref7L1 at hm
   refine DW.skip ?_
   refine DW.seq (DW.block ?_)
   refine DW.seq (RD hnt (nn 8 []) [13] [(4, rr 1032)] [] [(1032, bx (pm (encNode (c162e1 p0 k1))))] (an (nn0 k1) (an (ltc hlt1) trivial)) ?_)
   obtain ⟨r20, hr20, hm⟩ := bind_open hm
   refine DW.seq ?_
   refine DW.join (ι := Bool) (fun (y3 : Bool) => mkSt [(1, rr 1008), (3, pI ((k1 : Nat) : Int)), (49, pB y3)] [(1008, bx (pm (encHierarchy p0)))]) (fun y3 => (Sound_ref7J3 n1) y3 = some RES) ?_ ?_
   ·intro y3 hm
    unfold Sound_ref7J3 at hm
    refine condM hm ?_ ?_
    ·intro h25 hm
     refine DW.seq (RK hnt (.no :: []) [(2, pB false)] [] trivial ?_)
     refine DW.ret ?_
     obtain rfl := Option.some.inj hm
     exact retK [] [] (pB false)
    ·intro h25 hm
     refine DW.skip ?_
     refine DW.done ?_
     show DW _ _ _ _ _
     refine RD hnt (nn 3 []) [49] [(3, pI (w64 (((k1 : Nat) : Int) + 1)))] [] [] trivial ?_
     exact joinDone () ⟨hlt1, hm⟩ (Conv.tp [(3, pI (w64 (((k1 : Nat) : Int) + 1)))] [] (by kernel_rfl) (.cons rfl (.of_eq (congrArg pI (w64_succ hlt1 hc1))) .nil) .nil)
   ·rcases bt ((kandNot .i64 (c162e1 p0 k1).control r20) != 0) with h21 | h21
    ·replace hm := if_t h21 hm
     refine RD hnt (nn 6 (.call 174 [] true (pI r20) [] [] :: nn 3 (sk 17 (pT :: [])))) [4] [(49, pB true)] [1032] [] (an (Available_ref7Spec p0.tree (c162e1 p0 k1).id r20 hr20) (an2 h21 (an6 h21 trivial))) ?_
     exact joinDone true hm Conv.eqK
    ·replace hm := if_f h21 hm
     rcases bt ((c162e1 p0 k1).id != 1) with h22 | h22
     ·replace hm := if_t h22 hm
      rcases bt ((kand .i64 (c162e1 p0 k1).control 6) != 0) with h23 | h23
      ·replace hm := if_t h23 hm
       obtain ⟨r24, hr24, hm⟩ := bind_open hm
       refine RD hnt (nn 6 (.call 174 [] true (pI r20) [] [] :: nn 11 (pT :: nn 4 (.call 26 [] true (ow 0 r24.length) [] [roI r24] :: nn 2 (pT :: pF :: []))))) [4] [(49, pB (decide (((r24.length : Nat) : Int) > 0)))] [1032] [] (an (Available_ref7Spec p0.tree (c162e1 p0 k1).id r20 hr20) (an4 h21 (an4 h22 (an h21 (an h22 (an h21 (an4 h23 (an (Tasks_ref6Spec p0 (c162e1 p0 k1).id r24 hr24) (an2 h23 (an h21 (an h23 (an h21 trivial)))))))))))) ?_
       exact joinDone (decide (((r24.length : Nat) : Int) > 0)) hm Conv.eqK
      ·replace hm := if_f h23 hm
       refine RD hnt (nn 6 (.call 174 [] true (pI r20) [] [] :: nn 11 (pT :: .no :: sk 6 (pF :: pF :: [])))) [4] [(49, pB false)] [1032] [] (an (Available_ref7Spec p0.tree (c162e1 p0 k1).id r20 hr20) (an4 h21 (an4 h22 (an h21 (an h22 (an h21 (an6 h23 (an h21 (an h23 (an h21 trivial)))))))))) ?_
       exact joinDone false hm Conv.eqK
     ·replace hm := if_f h22 hm
      refine RD hnt (nn 6 (.call 174 [] true (pI r20) [] [] :: nn 7 (sk 4 (pF :: .no :: sk 6 (pF :: pF :: []))))) [4] [(49, pB false)] [1032] [] (an (Available_ref7Spec p0.tree (c162e1 p0 k1).id r20 hr20) (an4 h21 (an4 h22 (an h21 (an h22 (an h21 (an6 ff (an h21 (an ff (an h21 trivial)))))))))) ?_
      exact joinDone false hm Conv.eqK
  ·intro h19
   have hge1 : ¬ k1 < p0.tree.nodes.length := by have := of_decide_eq_false h19; omega
   have hm := he1 hge1
   unfold Sound_ref7D1 at hm
   refine DW.exit ?_
   refine joinQ_exit ?_
   refine KQ_exit ?_
   refine blockQ_exit ?_
   show DW _ _ _ _ _
   refine DW.seq (RK hnt (.no :: []) [(2, pB true)] [] trivial ?_)
   refine DW.ret ?_
   obtain rfl := Option.some.inj hm
   exact retK [] [] (pB true)

theorem Find_ref6Spec (p0 : Hierarchy) (p1 : Int) (RES : Task × Bool) (hm : Find_ref6 p0 p1 = some RES) : Spec Tryz.prog 53 [.p (.agg (encHierarchy p0)), pI p1] [] (.p (.tup [.agg (encTask RES.1), vb RES.2])) [] [] := by
 unfold Find_ref6 at hm
 refine SO Tryz.func53 rfl rfl [(0, .p (.agg (encHierarchy p0))), (1, pI p1)] [] ?_
 intro cx hnt
 refine DW.seq (RK hnt (nn 3 []) [(1, pI p1), (2, rr 1016), (4, rr 1032)] [(1016, bx (pm (encHierarchy p0))), (1032, bx [pI 0, pI 0, pI 0, pI 0])] trivial ?_)
 obtain ⟨r1, hr1, hm⟩ := bind_open hm
 refine DW.seq (DW.seq (RD hnt (.no :: .call 52 [] true (pB r1) [] [] :: .no :: []) [] [(9, pB (!r1))] [] [] (an (Check_ref6Spec p0 r1 hr1) trivial) ?_))
 refine condM hm ?_ ?_
 ·intro h2 hm
  refine DW.seq (RD hnt (nn 3 []) [1, 2, 9] [(5, pB false)] [1016] [] trivial ?_)
  refine DW.ret ?_
  obtain rfl := Option.some.inj hm
  exact retK [] [] (.p (.tup [.agg [vi 0, vi 0, vi 0, vi 0], vb false]))
 ·intro h2 hm
  refine DW.skip ?_
  refine DW.seq (DW.seq (RD hnt (.no :: []) [9] [(6, pI 0)] [] [] trivial ?_))
  refine DW.block ?_
  obtain ⟨hc1, hm⟩ := guard_open hm
  refine DW.rangeO (fun (k1 : Nat) (s1 : Unit) => mkSt [(1, pI p1), (2, rr 1016), (4, rr 1032), (6, pI ((k1 : Nat) : Int))] [(1016, bx (pm (encHierarchy p0))), (1032, bx [pI 0, pI 0, pI 0, pI 0])]) dTask hm Conv.eqK ?_
  intro k1 s1 n1 hk1 hs1 he1
  refine DW.seq (DW.seq (RD hnt (nn 5 []) [] [(15, pB (decide (((k1 : Nat) : Int) < ((p0.tasks.length : Nat) : Int))))] [] [] trivial ?_))
  refine condK (decide (((k1 : Nat) : Int) < ((p0.tasks.length : Nat) : Int))) ?_ ?_
  ·intro h11
   have hlt1 : k1 < p0.tasks.length := by have := of_decide_eq_true h11; omega
   have hm := hs1 hlt1
   unfold Find_ref6L1 at hm
   refine DW.skip ?_
   refine DW.seq (DW.block ?_)
   refine DW.seq (RD hnt (nn 8 []) [15] [(25, pB ((p0.tasks.getD k1 (default : Task)).id == p1))] [] [] (an (nn0 k1) (an (ltc hlt1) trivial)) ?_)
   refine condM hm ?_ ?_
   ·intro h12 hm
    refine DW.seq (RK hnt (nn 7 []) [(4, rr 1032), (5, pB true)] [(1032, bx (pm (encTask (p0.tasks.getD k1 (default : Task)))))] (an (nn0 k1) (an (ltc hlt1) trivial)) ?_)
    refine DW.ret ?_
    obtain rfl := Option.some.inj hm
    exact retK [] [] (.p (.tup [.agg (encTask (p0.tasks.getD k1 (default : Task))), vb true]))
   ·intro h12 hm
    refine DW.skip ?_
    refine DW.done ?_
    show DW _ _ _ _ _
    refine RD hnt (nn 3 []) [25] [(6, pI (w64 (((k1 : Nat) : Int) + 1)))] [] [] trivial ?_
    exact joinDone () ⟨hlt1, hm⟩ (Conv.tp [(6, pI (w64 (((k1 : Nat) : Int) + 1)))] [] (by kernel_rfl) (.cons rfl (.of_eq (congrArg pI (w64_succ hlt1 hc1))) .nil) .nil)
  ·intro h11
   have hge1 : ¬ k1 < p0.tasks.length := by have := of_decide_eq_false h11; omega
   have hm := he1 hge1
   unfold Find_ref6D1 at hm
   refine DW.exit ?_
   refine joinQ_exit ?_
   refine KQ_exit ?_
   refine blockQ_exit ?_
   show DW _ _ _ _ _
   refine DW.seq (RD hnt (nn 3 []) [1, 2, 6, 15] [(5, pB false)] [1016] [] trivial ?_)
   refine DW.ret ?_
   obtain rfl := Option.some.inj hm
   exact retK [] [] (.p (.tup [.agg [vi 0, vi 0, vi 0, vi 0], vb false]))

theorem Ancestors_ref5Spec (p0 : Tree) (p1 : Int) (RES : List Int) (hm : Ancestors_ref5 p0 p1 = some RES) : Spec Tryz.prog 21 [.p (.agg (encTree p0)), pI p1] [] (ow 0 RES.length) [] [roI RES] := by
 unfold Ancestors_ref5 at hm
 refine SO Tryz.func21 rfl rfl [(0, .p (.agg (encTree p0))), (1, pI p1)] [] ?_
 intro cx hnt
 refine DW.seq (RK hnt (nn 2 []) [(1, pI p1), (2, rr 1016)] [(1016, bx (pm (encTree p0)))] trivial ?_)
 obtain ⟨r1, hr1, hm⟩ := bind_open hm
 refine DW.seq (DW.seq (RD hnt (nn 2 (.call 88 [] true (pB r1) [] [] :: .no :: [])) [] [(8, pB (!r1))] [] [] (an (Has_ref5Spec p0 p1 r1 hr1) trivial) ?_))
 refine condM hm ?_ ?_
 ·intro h2 hm
  refine DW.seq (RK hnt (.no :: []) [(4, .p (.sl .nil 0 0 (fun _ => [])))] [] trivial ?_)
  refine DW.conv (τ := mkSt [(4, ow 100000 0)] [(100000, ob0 (roI []))]) (Conv.trans (τ := mkSt [(4, ow 100000 0)] ((100000, ⟨0, .row 1 0 (elems encI 0 [])⟩) :: [])) (Conv.adopt 100000 1 (elems encI 0 []) rfl rfl (.cons (.one (.nil _ _)) (.rfl _)) (.rfl _)) Conv.t0) ?_
  refine DW.ret ?_
  obtain rfl := Option.some.inj hm
  exact retK [roI []] [100000] (ow 0 0)
 ·intro h2 hm
  refine DW.skip ?_
  obtain ⟨r3, hr3, hm⟩ := bind_open hm
  refine DW.seq (RK hnt (nn 2 (.call 89 [] true (ow 0 r3.length) [] [roI r3] :: .no :: [])) [(4, ow 1088 r3.length)] [(1088, ob0 (roI r3))] (an (up_ref5Spec p0 p1 r3 hr3) trivial) ?_)
  refine DW.ret ?_
  obtain rfl := Option.some.inj hm
  exact retK [roI r3] [1088] (ow 0 r3.length)

theorem Domain_ref8Spec (p0 : Tree) (p1 : Int) (RES : Int × Bool) (hm : Domain_ref8 p0 p1 = some RES) : Spec Tryz.prog 137 [.p (.agg (encTree p0)), pI p1] [] (.p (.tup [vi RES.1, vb RES.2])) [] [] := by
 unfold Domain_ref8 at hm
 refine SO Tryz.func137 rfl rfl [(0, .p (.agg (encTree p0))), (1, pI p1)] [] ?_
 intro cx hnt
 refine DW.seq (RK hnt (nn 3 []) [(1, pI p1), (2, rr 1016)] [(1016, bx (pm (encTree p0)))] trivial ?_)
 obtain ⟨r1, hr1, hm⟩ := bind_open hm
 refine DW.seq (RD hnt (nn 2 (.call 21 [] true (ow 0 r1.length) [] [roI r1] :: .no :: [])) [1] [(6, ow 1096 r1.length)] [] [(1096, ob0 (roI r1))] (an (Ancestors_ref5Spec p0 p1 r1 hr1) trivial) ?_)
 refine DW.seq (DW.seq (RD hnt (.no :: []) [] [(7, pI 0)] [] [] trivial ?_))
 refine DW.block ?_
 obtain ⟨hc1, hm⟩ := guard_open hm
 refine DW.rangeO (fun (k1 : Nat) (s1 : Unit) => mkSt [(2, rr 1016), (6, ow 1096 r1.length), (7, pI ((k1 : Nat) : Int))] [(1016, bx (pm (encTree p0))), (1096, ob0 (roI r1))]) 0 hm Conv.eqK ?_
 intro k1 s1 n1 hk1 hs1 he1
 refine DW.seq (DW.seq (RD hnt (nn 4 []) [] [(16, pB (decide (((k1 : Nat) : Int) < ((r1.length : Nat) : Int))))] [] [] trivial ?_))
 refine condK (decide (((k1 : Nat) : Int) < ((r1.length : Nat) : Int))) ?_ ?_
 ·intro h16
  have hlt1 : k1 < r1.length := by have := of_decide_eq_true h16; omega
  have hm := hs1 hlt1
  unfold Domain_ref8L1 at hm
  refine DW.skip ?_
  refine DW.seq (DW.block ?_)
  obtain ⟨r17, hr17, hm⟩ := bind_open hm
  refine DW.seq (RD hnt (nn 5 (.call 135 [] true (.p (.tup [.agg (encNode r17.1), vb r17.2])) [] [] :: nn 6 [])) [16] [(8, rr 1064)] [] [(1064, bx (pm (encNode r17.1)))] (an (nn0 k1) (an (ltc hlt1) (an (by omega : k1 < r1.length) (an (Find_ref5Spec p0 (r1.getD k1 0) r17 hr17) trivial)))) ?_)
  refine DW.seq (RD hnt (nn 3 []) [8] [(30, pB (r17.1.kind != 1))] [1064] [] trivial ?_)
  refine condM hm ?_ ?_
  ·intro h18 hm
   refine DW.seq (RK hnt (nn 6 []) [(4, pI (r1.getD k1 0)), (5, pB true)] [] (an (nn0 k1) (an (ltc hlt1) (an (by omega : k1 < r1.length) trivial))) ?_)
   refine DW.ret ?_
   obtain rfl := Option.some.inj hm
   exact retK [] [] (.p (.tup [vi (r1.getD k1 0), vb true]))
  ·intro h18 hm
   refine DW.skip ?_
   refine DW.done ?_
   show DW _ _ _ _ _
   refine RD hnt (nn 3 []) [30] [(7, pI (w64 (((k1 : Nat) : Int) + 1)))] [] [] trivial ?_
   exact joinDone () ⟨hlt1, hm⟩ (Conv.tp [(7, pI (w64 (((k1 : Nat) : Int) + 1)))] [] (by kernel_rfl) (.cons rfl (.of_eq (congrArg pI (w64_succ hlt1 hc1))) .nil) .nil)
 ·intro h16
  have hge1 : ¬ k1 < r1.length := by have := of_decide_eq_false h16; omega
  have hm := he1 hge1
  unfold Domain_ref8D1 at hm
  refine DW.exit ?_
  refine joinQ_exit ?_
  refine KQ_exit ?_
  refine blockQ_exit ?_
  show DW _ _ _ _ _
  refine DW.seq (RK hnt (nn 2 []) [(4, pI 0), (5, pB false)] [] trivial ?_)
  refine DW.ret ?_
  obtain rfl := Option.some.inj hm
  exact retK [] [] (.p (.tup [vi 0, vb false]))

abbrev c27e1 (p0 : Tree) (k1 : Nat) := (p0.nodes.getD k1 (default : Node))
abbrev c27e2 (p0 : Tree) : Nat × Obj := (1016, bx (pm (encTree p0)))
theorem Children_ref5Spec (p0 : Tree) (p1 : Int) (RES : List Int) (hm : Children_ref5 p0 p1 = some RES) : Spec Tryz.prog 27 [.p (.agg (encTree p0)), pI p1] [] (ow 0 RES.length) [] [roI RES] := by
 unfold Children_ref5 at hm
 refine SO Tryz.func27 rfl rfl [(0, .p (.agg (encTree p0))), (1, pI p1)] [] ?_
 intro cx hnt
 refine DW.seq (RK hnt (nn 2 []) [(1, pI p1), (2, rr 1016)] [(c27e2 p0)] trivial ?_)
 obtain ⟨r1, hr1, hm⟩ := bind_open hm
 refine DW.seq (DW.seq (RD hnt (nn 2 (.call 88 [] true (pB r1) [] [] :: .no :: [])) [] [(10, pB (!r1))] [] [] (an (Has_ref5Spec p0 p1 r1 hr1) trivial) ?_))
 refine condM hm ?_ ?_
 ·intro h2 hm
  refine DW.seq (RK hnt (.no :: []) [(4, .p (.sl .nil 0 0 (fun _ => [])))] [] trivial ?_)
  refine DW.conv (τ := mkSt [(4, ow 100000 0)] [(100000, ob0 (roI []))]) (Conv.trans (τ := mkSt [(4, ow 100000 0)] ((100000, ⟨0, .row 1 0 (elems encI 0 [])⟩) :: [])) (Conv.adopt 100000 1 (elems encI 0 []) rfl rfl (.cons (.one (.nil _ _)) (.rfl _)) (.rfl _)) Conv.t0) ?_
  refine DW.ret ?_
  obtain rfl := Option.some.inj hm
  exact retK [roI []] [100000] (ow 0 0)
 ·intro h2 hm
  refine DW.skip ?_
  refine DW.seq (RD hnt (.no :: []) [10] [(5, .p (.sl .nil 0 0 (fun _ => [])))] [] [] trivial ?_)
  refine DW.seq (DW.seq (RD hnt (.no :: []) [] [(6, pI 0)] [] [] trivial ?_))
  refine DW.block ?_
  obtain ⟨hc1, hm⟩ := guard_open hm
  refine DW.rangeO (fun (k1 : Nat) (s1 : List Int) => mkSt [(1, pI p1), (2, rr 1016), (5, ow 1272 s1.length), (6, pI ((k1 : Nat) : Int))] [(c27e2 p0), (1272, ob0 (roI s1))]) dNode hm (Conv.trans (τ := mkSt [(1, pI p1), (2, rr 1016), (5, .p (.sl .nil 0 0 (fun _ => []))), (6, pI 0)] [(c27e2 p0)]) Conv.eqK (Conv.trans (τ := mkSt [(1, pI p1), (2, rr 1016), (5, ow 1272 0), (6, pI 0)] ((1272, ⟨0, .row 1 0 (elems encI 0 [])⟩) :: [(c27e2 p0)])) (Conv.adopt 1272 1 (elems encI 0 []) rfl rfl (.cons (.one (.rfl _)) (.cons (.one (.rfl _)) (.cons (.one (.nil _ _)) (.cons (.one (.rfl _)) (.rfl _))))) (.rfl _)) Conv.t0)) ?_
  intro k1 s1 n1 hk1 hs1 he1
  refine DW.seq (DW.seq (RD hnt (nn 5 []) [] [(15, pB (decide (((k1 : Nat) : Int) < ((p0.nodes.length : Nat) : Int))))] [] [] trivial ?_))
  refine condK (decide (((k1 : Nat) : Int) < ((p0.nodes.length : Nat) : Int))) ?_ ?_
  ·intro h12
   have hlt1 : k1 < p0.nodes.length := by have := of_decide_eq_true h12; omega
   have hm := hs1 hlt1
   unfold Children_ref5L1 at hm
   refine DW.skip ?_
   refine DW.seq ?_
   refine DW.join (ι := List Int) (fun (y3 : List Int) => mkSt [(1, pI p1), (2, rr 1016), (5, ow 1272 y3.length), (6, pI ((k1 : Nat) : Int))] [(c27e2 p0), (1272, ob0 (roI y3))]) (fun y3 => (Children_ref5J3 n1) y3 = some RES) ?_ ?_
   ·intro y3 hm
    unfold Children_ref5J3 at hm
    refine RD hnt (nn 3 []) [] [(6, pI (w64 (((k1 : Nat) : Int) + 1)))] [] [] trivial ?_
    exact joinDone y3 ⟨hlt1, hm⟩ (Conv.tp [(6, pI (w64 (((k1 : Nat) : Int) + 1)))] [] (by kernel_rfl) (.cons rfl (.of_eq (congrArg pI (w64_succ hlt1 hc1))) .nil) .nil)
   ·refine DW.block ?_
    refine DW.seq (RD hnt (nn 8 []) [15] [(25, pB ((c27e1 p0 k1).parent == p1))] [] [] (an (nn0 k1) (an (ltc hlt1) trivial)) ?_)
    refine condM hm ?_ ?_
    ·intro h13 hm
     obtain ⟨g14, hm⟩ := guard_open hm
     refine RN hnt (nn 10 []) [(1, pI p1), (2, rr 1016), (5, ow 1272 (s1 ++ [(c27e1 p0 k1).id]).length), (6, pI ((k1 : Nat) : Int))] [(c27e2 p0), (1272, ob0 (roI (s1 ++ [(c27e1 p0 k1).id])))] [(5, ow 1272 (s1.length + 1))] [(1272, .row 1 (s1.length + 1) (catF s1.length (elI s1) (cut 1 [vi (c27e1 p0 k1).id])))] (an (nn0 k1) (an (ltc hlt1) (an (by omega : (s1.length + 1) * 8 ≤ 140737488355328) trivial))) (by kernel_rfl) (.cons rfl (MLe.ownLen (enc := encI) (d := 0) (f := (catF s1.length (elI s1) (cut 1 [vi (c27e1 p0 k1).id]))) (RowIs.cat RowIs.elems (RowIs.lit (enc := encI) (d := 0) (n := 1) (f := (cut 1 [vi (c27e1 p0 k1).id])) [(c27e1 p0 k1).id] rfl (fun | 0, _ => rfl | n + 1, h => absurd h (by omega))))) .nil) (.cons rfl (BLe.typed (RowIs.cat RowIs.elems (RowIs.lit (enc := encI) (d := 0) (n := 1) (f := (cut 1 [vi (c27e1 p0 k1).id])) [(c27e1 p0 k1).id] rfl (fun | 0, _ => rfl | n + 1, h => absurd h (by omega))))) .nil) ?_
     exact blockDone (s1 ++ [(c27e1 p0 k1).id]) hm .refl
    ·intro h13 hm
     refine DW.skip ?_
     exact blockDone s1 hm Conv.t0
  ·intro h12
   have hge1 : ¬ k1 < p0.nodes.length := by have := of_decide_eq_false h12; omega
   have hm := he1 hge1
   unfold Children_ref5D1 at hm
   refine DW.exit ?_
   refine joinQ_exit ?_
   refine KQ_exit ?_
   refine blockQ_exit ?_
   show DW _ _ _ _ _
   refine DW.seq (RK hnt (nn 2 []) [(4, ow 1272 s1.length)] [(1272, ob0 (roI s1))] trivial ?_)
   refine DW.ret ?_
   obtain rfl := Option.some.inj hm
   exact retK [roI s1] [1272] (ow 0 s1.length)

theorem Type_ref8BSpec (rec : Tree → Int → Option Int) (ih : ∀ (p0 : Tree) (p1 : Int) (RES : Int), rec p0 p1 = some RES → Spec Tryz.prog 130 [.p (.agg (encTree p0)), pI p1] [] (pI RES) [] []) (p0 : Tree) (p1 : Int) (RES : Int) (hm : Type_ref8B rec p0 p1 = some RES) : Spec Tryz.prog 130 [.p (.agg (encTree p0)), pI p1] [] (pI RES) [] [] := by
 unfold Type_ref8B at hm
 refine SO Tryz.func130 rfl rfl [(0, .p (.agg (encTree p0))), (1, pI p1)] [] ?_
 intro cx hnt
 refine DW.seq (RK hnt (nn 2 []) [(1, pI p1), (2, rr 1016)] [(1016, bx (pm (encTree p0)))] trivial ?_)
 obtain ⟨r1, hr1, hm⟩ := bind_open hm
 refine DW.seq (RD hnt (nn 2 (.call 135 [] true (.p (.tup [.agg (encNode r1.1), vb r1.2])) [] [] :: nn 6 [])) [] [(5, rr 1040), (6, pB r1.2)] [] [(1040, bx (pm (encNode r1.1)))] (an (Find_ref5Spec p0 p1 r1 hr1) trivial) ?_)
 refine DW.seq (DW.seq (RD hnt (nn 2 []) [6] [(20, pB (!r1.2))] [] [] trivial ?_))
 refine condM hm ?_ ?_
 ·intro h2 hm
  refine DW.seq (RK hnt (.no :: []) [(4, pI 0)] [] trivial ?_)
  refine DW.ret ?_
  obtain rfl := Option.some.inj hm
  exact retK [] [] (pI 0)
 ·intro h2 hm
  refine DW.skip ?_
  refine DW.seq (DW.seq (RD hnt (nn 3 []) [20] [(23, pB (r1.1.kind == 1))] [] [] trivial ?_))
  refine condM hm ?_ ?_
  ·intro h3 hm
   refine DW.seq (RK hnt (.no :: []) [(4, pI 2)] [] trivial ?_)
   refine DW.ret ?_
   obtain rfl := Option.some.inj hm
   exact retK [] [] (pI 2)
  ·intro h3 hm
   refine DW.skip ?_
   obtain ⟨r4, hr4, hm⟩ := bind_open hm
   refine DW.seq (DW.seq (RD hnt (nn 3 (.call 135 [] true (.p (.tup [.agg (encNode r4.1), vb r4.2])) [] [] :: nn 6 [])) [5, 23] [(7, rr 1056), (8, pB r4.2)] [1040] [(1056, bx (pm (encNode r4.1)))] (an (Find_ref5Spec p0 r1.1.parent r4 hr4) trivial) ?_))
   refine DW.seq ?_
   refine DW.join (ι := Bool) (fun (y1 : Bool) => mkSt [(1, pI p1), (2, rr 1016), (43, pB y1)] [(1016, bx (pm (encTree p0)))]) (fun y1 => (Type_ref8J1 p0 p1) y1 = some RES) ?_ ?_
   ·intro y1 hm
    unfold Type_ref8J1 at hm
    refine condM hm ?_ ?_
    ·intro h8 hm
     refine DW.seq (RK hnt (.no :: []) [(4, pI 3)] [] trivial ?_)
     refine DW.ret ?_
     obtain rfl := Option.some.inj hm
     exact retK [] [] (pI 3)
    ·intro h8 hm
     refine DW.skip ?_
     obtain ⟨r9, hr9, hm⟩ := bind_open hm
     refine DW.seq (RD hnt (nn 2 (.call 27 [] true (ow 0 r9.length) [] [roI r9] :: .no :: [])) [1, 43] [(9, ow 1368 r9.length)] [] [(1368, ob0 (roI r9))] (an (Children_ref5Spec p0 p1 r9 hr9) trivial) ?_)
     refine DW.seq (DW.seq (RD hnt (.no :: []) [] [(10, pI 0)] [] [] trivial ?_))
     refine DW.block ?_
     obtain ⟨hc1, hm⟩ := guard_open hm
     refine DW.rangeO (fun (k1 : Nat) (s1 : Unit) => mkSt [(2, rr 1016), (9, ow 1368 r9.length), (10, pI ((k1 : Nat) : Int))] [(1016, bx (pm (encTree p0))), (1368, ob0 (roI r9))]) 0 hm Conv.eqK ?_
     intro k1 s1 n1 hk1 hs1 he1
     refine DW.seq (DW.seq (RD hnt (nn 4 []) [] [(50, pB (decide (((k1 : Nat) : Int) < ((r9.length : Nat) : Int))))] [] [] trivial ?_))
     refine condK (decide (((k1 : Nat) : Int) < ((r9.length : Nat) : Int))) ?_ ?_
     ·intro h20
      have hlt1 : k1 < r9.length := by have := of_decide_eq_true h20; omega
      have hm := hs1 hlt1
      unfold Type_ref8L1 at hm
      refine DW.skip ?_
      refine DW.seq (DW.block ?_)
      obtain ⟨r21, hr21, hm⟩ := bind_open hm
      refine DW.seq (RD hnt (nn 5 (.call 135 [] true (.p (.tup [.agg (encNode r21.1), vb r21.2])) [] [] :: nn 6 [])) [50] [(11, rr 1088)] [] [(1088, bx (pm (encNode r21.1)))] (an (nn0 k1) (an (ltc hlt1) (an (by omega : k1 < r9.length) (an (Find_ref5Spec p0 (r9.getD k1 0) r21 hr21) trivial)))) ?_)
      refine DW.seq (RD hnt (nn 3 []) [11] [(64, pB (r21.1.kind == 1))] [1088] [] trivial ?_)
      refine condM hm ?_ ?_
      ·intro h22 hm
       refine DW.seq (RK hnt (.no :: []) [(4, pI 1)] [] trivial ?_)
       refine DW.ret ?_
       obtain rfl := Option.some.inj hm
       exact retK [] [] (pI 1)
      ·intro h22 hm
       refine DW.skip ?_
       refine DW.done ?_
       show DW _ _ _ _ _
       refine RD hnt (nn 3 []) [64] [(10, pI (w64 (((k1 : Nat) : Int) + 1)))] [] [] trivial ?_
       exact joinDone () ⟨hlt1, hm⟩ (Conv.tp [(10, pI (w64 (((k1 : Nat) : Int) + 1)))] [] (by kernel_rfl) (.cons rfl (.of_eq (congrArg pI (w64_succ hlt1 hc1))) .nil) .nil)
     ·intro h20
      have hge1 : ¬ k1 < r9.length := by have := of_decide_eq_false h20; omega
      have hm := he1 hge1
      unfold Type_ref8D1 at hm
      refine DW.exit ?_
      refine joinQ_exit ?_
      refine KQ_exit ?_
      refine blockQ_exit ?_
      show DW _ _ _ _ _
      refine DW.seq (RK hnt (.no :: []) [(4, pI 0)] [] trivial ?_)
      refine DW.ret ?_
      obtain rfl := Option.some.inj hm
      exact retK [] [] (pI 0)
   ·rcases bt r4.2 with h5 | h5
    ·replace hm := if_t h5 hm
     rcases bt (r4.1.kind == 1) with h6 | h6
     ·replace hm := if_t h6 hm
      refine RD hnt (nn 6 (sk 5 (pT :: pT :: []))) [7, 8] [(43, pB true)] [1056] [] (an4 h5 (an5 h6 (an h5 (an h6 (an h5 trivial))))) ?_
      exact joinDone true hm Conv.eqK
     ·replace hm := if_f h6 hm
      obtain ⟨r7, hr7, hm⟩ := bind_open hm
      refine RD hnt (nn 9 (.call 130 [] true (pI r7) [] [] :: .no :: pF :: pT :: [])) [7, 8] [(43, pB (r7 == 3))] [1056] [] (an4 h5 (an4 h6 (an (ih p0 r4.1.id r7 hr7) (an h6 (an h5 (an h6 (an h5 trivial))))))) ?_
      exact joinDone (r7 == 3) hm Conv.eqK
    ·replace hm := if_f h5 hm
     refine RD hnt (nn 2 (sk 10 (pF :: []))) [7, 8] [(43, pB false)] [1056] [] (an6 h5 trivial) ?_
     exact joinDone false hm Conv.eqK
theorem Type_ref8FSpec : ∀ (n : Nat) (p0 : Tree) (p1 : Int) (RES : Int), Type_ref8F n p0 p1 = some RES → Spec Tryz.prog 130 [.p (.agg (encTree p0)), pI p1] [] (pI RES) [] []
  | 0, p0, p1, RES, hm => by simp [Type_ref8F] at hm
  | n + 1, p0, p1, RES, hm => Type_ref8BSpec (Type_ref8F n) (Type_ref8FSpec n) p0 p1 RES hm
theorem Type_ref8Spec (p0 : Tree) (p1 : Int) (RES : Int) (hm : Type_ref8 p0 p1 = some RES) : Spec Tryz.prog 130 [.p (.agg (encTree p0)), pI p1] [] (pI RES) [] [] := Type_ref8FSpec FUEL p0 p1 RES hm

abbrev c129e1 (p0 : Hierarchy) (k4 : Nat) := (p0.tree.nodes.getD k4 (default : Node))
abbrev c129e2 (p0 : Hierarchy) : Nat × Obj := (1008, bx (pm (encHierarchy p0)))
theorem Fits_ref8Spec (p0 : Hierarchy) (RES : Bool) (hm : Fits_ref8 p0 = some RES) : Spec Tryz.prog 129 [.p (.agg (encHierarchy p0))] [] (pB RES) [] [] := by
 unfold Fits_ref8 at hm
 refine SO Tryz.func129 rfl rfl [(0, .p (.agg (encHierarchy p0)))] [] ?_
 intro cx hnt
 refine DW.seq (RK hnt (nn 2 []) [(1, rr 1008)] [(c129e2 p0)] trivial ?_)
 obtain ⟨r1, hr1, hm⟩ := bind_open hm
 refine DW.seq (DW.seq (RD hnt (.no :: .call 162 [] true (pB r1) [] [] :: .no :: []) [] [(16, pB (!r1))] [] [] (an (Sound_ref7Spec p0 r1 hr1) trivial) ?_))
 refine condM hm ?_ ?_
 ·intro h2 hm
  refine DW.seq (RK hnt (.no :: []) [(2, pB false)] [] trivial ?_)
  refine DW.ret ?_
  obtain rfl := Option.some.inj hm
  exact retK [] [] (pB false)
 ·intro h2 hm
  refine DW.skip ?_
  refine DW.seq (DW.seq (RD hnt (.no :: []) [16] [(3, pI 0)] [] [] trivial ?_))
  refine DW.block ?_
  obtain ⟨hc1, hm⟩ := guard_open hm
  refine DW.rangeO (fun (k1 : Nat) (s1 : Unit) => mkSt [(1, rr 1008), (3, pI ((k1 : Nat) : Int))] [(c129e2 p0)]) dTask hm Conv.eqK ?_
  intro k1 s1 n1 hk1 hs1 he1
  refine DW.seq (DW.seq (RD hnt (nn 5 []) [] [(21, pB (decide (((k1 : Nat) : Int) < ((p0.tasks.length : Nat) : Int))))] [] [] trivial ?_))
  refine condK (decide (((k1 : Nat) : Int) < ((p0.tasks.length : Nat) : Int))) ?_ ?_
  ·intro h99
   have hlt1 : k1 < p0.tasks.length := by have := of_decide_eq_true h99; omega
   have hm := hs1 hlt1
   unfold Fits_ref8L1 at hm
   refine DW.skip ?_
   refine DW.seq (DW.block ?_)
   obtain ⟨r100, hr100, hm⟩ := bind_open hm
   refine DW.seq (RD hnt (nn 7 (.call 53 [] true (.p (.tup [.agg (encTask r100.1), vb r100.2])) [] [] :: nn 6 [])) [21] [(4, rr 1032)] [] [(1032, bx (pm (encTask r100.1)))] (an (nn0 k1) (an (ltc hlt1) (an (Find_ref6Spec p0 (p0.tasks.getD k1 (default : Task)).process r100 hr100) trivial))) ?_)
   obtain ⟨r101, hr101, hm⟩ := bind_open hm
   refine DW.seq (RD hnt (nn 8 (.call 137 [] true (.p (.tup [vi r101.1, vb r101.2])) [] [] :: nn 5 [])) [] [(6, pI r101.1)] [] [] (an (nn0 k1) (an (ltc hlt1) (an (Domain_ref8Spec p0.tree (p0.tasks.getD k1 (default : Task)).group r101 hr101) trivial))) ?_)
   obtain ⟨r102, hr102, hm⟩ := bind_open hm
   refine DW.seq (RD hnt (nn 4 (.call 137 [] true (.p (.tup [vi r102.1, vb r102.2])) [] [] :: nn 5 [])) [4] [(8, pI r102.1)] [1032] [] (an (Domain_ref8Spec p0.tree r100.1.group r102 hr102) trivial) ?_)
   refine DW.seq (RD hnt (nn 3 []) [6, 8] [(57, pB (r101.1 != r102.1))] [] [] trivial ?_)
   refine condM hm ?_ ?_
   ·intro h103 hm
    refine DW.seq (RK hnt (.no :: []) [(2, pB false)] [] trivial ?_)
    refine DW.ret ?_
    obtain rfl := Option.some.inj hm
    exact retK [] [] (pB false)
   ·intro h103 hm
    refine DW.skip ?_
    refine DW.done ?_
    show DW _ _ _ _ _
    refine RD hnt (nn 3 []) [57] [(3, pI (w64 (((k1 : Nat) : Int) + 1)))] [] [] trivial ?_
    exact joinDone () ⟨hlt1, hm⟩ (Conv.tp [(3, pI (w64 (((k1 : Nat) : Int) + 1)))] [] (by kernel_rfl) (.cons rfl (.of_eq (congrArg pI (w64_succ hlt1 hc1))) .nil) .nil)
  ·intro h99
   have hge1 : ¬ k1 < p0.tasks.length := by have := of_decide_eq_false h99; omega
   have hm := he1 hge1
   unfold Fits_ref8D1 at hm
   refine DW.exit ?_
   refine joinQ_exit ?_
   refine KQ_exit ?_
   refine blockQ_exit ?_
   show DW _ _ _ _ _
   refine DW.seq (DW.seq (RD hnt (.no :: []) [3, 21] [(10, pI 0)] [] [] trivial ?_))
   refine DW.block ?_
   obtain ⟨hc4, hm⟩ := guard_open hm
   refine DW.rangeO (fun (k4 : Nat) (s4 : Unit) => mkSt [(1, rr 1008), (10, pI ((k4 : Nat) : Int))] [(c129e2 p0)]) dNode hm Conv.eqK ?_
   intro k4 s4 n4 hk4 hs4 he4
   refine DW.seq (DW.seq (RD hnt (nn 6 []) [] [(63, pB (decide (((k4 : Nat) : Int) < ((p0.tree.nodes.length : Nat) : Int))))] [] [] trivial ?_))
   refine condK (decide (((k4 : Nat) : Int) < ((p0.tree.nodes.length : Nat) : Int))) ?_ ?_
   ·intro h132
    have hlt4 : k4 < p0.tree.nodes.length := by have := of_decide_eq_true h132; omega
    have hm := hs4 hlt4
    unfold Fits_ref8L4 at hm
    refine DW.skip ?_
    refine DW.seq (DW.block ?_)
    refine DW.seq (RD hnt (nn 8 []) [63] [(11, rr 1088)] [] [(1088, bx (pm (encNode (c129e1 p0 k4))))] (an (nn0 k4) (an (ltc hlt4) trivial)) ?_)
    obtain ⟨r133, hr133, hm⟩ := bind_open hm
    refine DW.seq (RD hnt (nn 4 (.call 135 [] true (.p (.tup [.agg (encNode r133.1), vb r133.2])) [] [] :: nn 6 [])) [] [(12, rr 1096)] [] [(1096, bx (pm (encNode r133.1)))] (an (Find_ref5Spec p0.tree (c129e1 p0 k4).parent r133 hr133) trivial) ?_)
    obtain ⟨r134, hr134, hm⟩ := bind_open hm
    refine DW.seq (DW.seq ?_)
    refine DW.join (ι := Bool) (fun (y17 : Bool) => mkSt [(1, rr 1008), (10, pI ((k4 : Nat) : Int)), (11, rr 1088), (12, rr 1096), (98, pB y17)] [(c129e2 p0), (1088, bx (pm (encNode (c129e1 p0 k4)))), (1096, bx (pm (encNode r133.1)))]) (fun y17 => (Fits_ref8J17 p0 (c129e1 p0 k4) n4 r133) y17 = some RES) ?_ ?_
    ·intro y17 hm
     unfold Fits_ref8J17 at hm
     refine condM hm ?_ ?_
     ·intro h138 hm
      refine DW.seq (RK hnt (.no :: []) [(2, pB false)] [] trivial ?_)
      refine DW.ret ?_
      obtain rfl := Option.some.inj hm
      exact retK [] [] (pB false)
     ·intro h138 hm
      refine DW.skip ?_
      refine DW.seq ?_
      refine DW.join (ι := Bool) (fun (y18 : Bool) => mkSt [(1, rr 1008), (10, pI ((k4 : Nat) : Int)), (120, pB y18)] [(c129e2 p0)]) (fun y18 => (Fits_ref8J18 n4) y18 = some RES) ?_ ?_
      ·intro y18 hm
       unfold Fits_ref8J18 at hm
       refine condM hm ?_ ?_
       ·intro h144 hm
        refine DW.seq (RK hnt (.no :: []) [(2, pB false)] [] trivial ?_)
        refine DW.ret ?_
        obtain rfl := Option.some.inj hm
        exact retK [] [] (pB false)
       ·intro h144 hm
        refine DW.skip ?_
        refine DW.done ?_
        show DW _ _ _ _ _
        refine RD hnt (nn 3 []) [120] [(10, pI (w64 (((k4 : Nat) : Int) + 1)))] [] [] trivial ?_
        exact joinDone () ⟨hlt4, hm⟩ (Conv.tp [(10, pI (w64 (((k4 : Nat) : Int) + 1)))] [] (by kernel_rfl) (.cons rfl (.of_eq (congrArg pI (w64_succ hlt4 hc4))) .nil) .nil)
      ·rcases bt ((c129e1 p0 k4).kind == 1) with h139 | h139
       ·replace hm := if_t h139 hm
        rcases bt (r133.1.id != 1) with h140 | h140
        ·replace hm := if_t h140 hm
         rcases bt ((kand .i64 r133.1.control 6) != 0) with h141 | h141
         ·replace hm := if_t h141 hm
          refine RD hnt (nn 12 (pT :: .no :: sk 6 (pT :: pT :: []))) [11, 12, 98] [(120, pB true)] [1088, 1096] [] (an4 h139 (an4 h140 (an h139 (an h140 (an h139 (an6 h141 (an h139 (an h141 (an h139 trivial))))))))) ?_
          exact joinDone true hm Conv.eqK
         ·replace hm := if_f h141 hm
          obtain ⟨r142, hr142, hm⟩ := bind_open hm
          refine RD hnt (nn 12 (pT :: nn 5 (.call 130 [] true (pI r142) [] [] :: .no :: pF :: pT :: []))) [11, 12, 98] [(120, pB (r142 == 3))] [1088, 1096] [] (an4 h139 (an4 h140 (an h139 (an h140 (an h139 (an5 h141 (an (Type_ref8Spec p0.tree r133.1.id r142 hr142) (an h141 (an h139 (an h141 (an h139 trivial))))))))))) ?_
          exact joinDone (r142 == 3) hm Conv.eqK
        ·replace hm := if_f h140 hm
         obtain ⟨r143, hr143, hm⟩ := bind_open hm
         refine RD hnt (nn 8 (sk 4 (pF :: nn 5 (.call 130 [] true (pI r143) [] [] :: .no :: pF :: pT :: [])))) [11, 12, 98] [(120, pB (r143 == 3))] [1088, 1096] [] (an4 h139 (an4 h140 (an h139 (an h140 (an h139 (an5 ff (an (Type_ref8Spec p0.tree r133.1.id r143 hr143) (an ff (an h139 (an ff (an h139 trivial))))))))))) ?_
         exact joinDone (r143 == 3) hm Conv.eqK
       ·replace hm := if_f h139 hm
        refine RD hnt (nn 4 (sk 17 (pF :: []))) [11, 12, 98] [(120, pB false)] [1088, 1096] [] (an2 h139 (an6 h139 trivial)) ?_
        exact joinDone false hm Conv.eqK
    ·rcases bt (r134 == 3) with h135 | h135
     ·replace hm := if_t h135 hm
      rcases bt ((c129e1 p0 k4).control != 0) with h136 | h136
      ·replace hm := if_t h136 hm
       refine RD hnt (nn 4 (.call 130 [] true (pI r134) [] [] :: nn 6 (sk 6 (pT :: pT :: [])))) [] [(98, pB true)] [] [] (an (Type_ref8Spec p0.tree (c129e1 p0 k4).id r134 hr134) (an4 h135 (an6 h136 (an h135 (an h136 (an h135 trivial)))))) ?_
       exact joinDone true hm Conv.eqK
      ·replace hm := if_f h136 hm
       obtain ⟨r137, hr137, hm⟩ := bind_open hm
       refine RD hnt (nn 4 (.call 130 [] true (pI r134) [] [] :: nn 9 (.call 26 [] true (ow 0 r137.length) [] [roI r137] :: nn 2 (pF :: pT :: [])))) [] [(98, pB (decide (((r137.length : Nat) : Int) > 0)))] [] [] (an (Type_ref8Spec p0.tree (c129e1 p0 k4).id r134 hr134) (an4 h135 (an4 h136 (an (Tasks_ref6Spec p0 (c129e1 p0 k4).id r137 hr137) (an2 h136 (an h135 (an h136 (an h135 trivial)))))))) ?_
       exact joinDone (decide (((r137.length : Nat) : Int) > 0)) hm Conv.eqK
     ·replace hm := if_f h135 hm
      refine RD hnt (nn 4 (.call 130 [] true (pI r134) [] [] :: nn 2 (sk 11 (pF :: [])))) [] [(98, pB false)] [] [] (an (Type_ref8Spec p0.tree (c129e1 p0 k4).id r134 hr134) (an6 h135 trivial)) ?_
      exact joinDone false hm Conv.eqK
   ·intro h132
    have hge4 : ¬ k4 < p0.tree.nodes.length := by have := of_decide_eq_false h132; omega
    have hm := he4 hge4
    unfold Fits_ref8D4 at hm
    refine DW.exit ?_
    refine joinQ_exit ?_
    refine KQ_exit ?_
    refine blockQ_exit ?_
    show DW _ _ _ _ _
    refine DW.seq (RK hnt (.no :: []) [(2, pB true)] [] trivial ?_)
    refine DW.ret ?_
    obtain rfl := Option.some.inj hm
    exact retK [] [] (pB true)

theorem Depth_ref5Spec (p0 : Tree) (p1 : Int) (RES : Int) (hm : Depth_ref5 p0 p1 = some RES) : Spec Tryz.prog 164 [.p (.agg (encTree p0)), pI p1] [] (pI RES) [] [] := by
 unfold Depth_ref5 at hm
 refine SO Tryz.func164 rfl rfl [(0, .p (.agg (encTree p0))), (1, pI p1)] [] ?_
 intro cx hnt
 refine DW.seq (RK hnt (nn 2 []) [(1, pI p1), (2, rr 1016)] [(1016, bx (pm (encTree p0)))] trivial ?_)
 obtain ⟨r1, hr1, hm⟩ := bind_open hm
 refine DW.seq (RK hnt (nn 2 (.call 21 [] true (ow 0 r1.length) [] [roI r1] :: nn 3 [])) [(4, pI (w64 (((r1.length : Nat) : Int) - 1)))] [] (an (Ancestors_ref5Spec p0 p1 r1 hr1) trivial) ?_)
 refine DW.ret ?_
 obtain rfl := Option.some.inj hm
 exact retK [] [] (pI (w64 (((r1.length : Nat) : Int) - 1)))

theorem Copy_ref5Spec (p0 : Tree) (RES : Tree) (hm : Copy_ref5 p0 = some RES) : Spec Tryz.prog 122 [.p (.agg (encTree p0))] [] (.agg [ow 0 RES.nodes.length, pI RES.next]) [] [roNode RES.nodes] := by
 unfold Copy_ref5 at hm
 refine SO Tryz.func122 rfl rfl [(0, .p (.agg (encTree p0)))] [] ?_
 intro cx hnt
 refine DW.seq (RK hnt (nn 2 []) [(1, rr 1008), (2, rr 1016)] [(1008, bx (pm (encTree p0))), (1016, bx [.p (.sl .nil 0 0 (fun _ => [])), pI 0])] trivial ?_)
 obtain ⟨g1, hm⟩ := guard_open hm
 refine DW.seq (RN hnt (nn 7 []) [(2, rr 1016)] [(1016, bx [ow 1040 p0.nodes.length, pI p0.next]), (1040, ob0 (roNode p0.nodes))] [] [(1040, .row 6 p0.nodes.length (elNode p0.nodes))] (an (by omega : p0.nodes.length * 56 ≤ 140737488355328) trivial) (by kernel_rfl) .nil (.cons rfl (BLe.typed RowIs.elems) .nil) ?_)
 refine DW.ret ?_
 obtain rfl := Option.some.inj hm
 exact retK [roNode p0.nodes] [1040] (.agg [ow 0 p0.nodes.length, pI p0.next])

abbrev c131e1 (p0 : Tree) (p1 : Int) (p2 : ByteArray) := ({ id := p0.next, parent := p1, name := p2, control := 0, kind := 0, owner := 0 } : Node)
abbrev c131e2 : Nat × Obj := (1048, bx [.p (.sl .nil 0 0 (fun _ => [])), pI 0])
abbrev c131e3 : Nat × Obj := (1048, bx [ow 100000 0, pI 0])
abbrev c131e4 (p0 : Tree) : Nat × Obj := (1024, bx (pm (encTree p0)))
theorem Add_ref5Spec (p0 : Tree) (p1 : Int) (p2 : ByteArray) (RES : Tree × Int × Int) (hm : Add_ref5 p0 p1 p2 = some RES) : Spec Tryz.prog 131 [.p (.agg (encTree p0)), pI p1, pS p2] [] (.tup [.agg [ow 0 RES.1.nodes.length, pI RES.1.next], pI RES.2.1, pI RES.2.2]) [] [roNode RES.1.nodes] := by
 unfold Add_ref5 at hm
 refine SO Tryz.func131 rfl rfl [(0, .p (.agg (encTree p0))), (1, pI p1), (2, pS p2)] [] ?_
 intro cx hnt
 refine DW.seq (RD hnt (nn 4 []) [0] [(3, rr 1024), (6, rr 1048)] [] [(c131e4 p0), (c131e2)] trivial ?_)
 obtain ⟨r1, hr1, hm⟩ := bind_open hm
 refine DW.seq (DW.seq ?_)
 refine DW.join (ι := Bool) (fun (y1 : Bool) => mkSt [(1, pI p1), (2, pS p2), (3, rr 1024), (6, rr 1048), (18, pB y1)] [(c131e4 p0), (c131e2)]) (fun y1 => (Add_ref5J1 p0 p1 p2) y1 = some RES) ?_ ?_
 ·intro y1 hm
  unfold Add_ref5J1 at hm
  refine condM hm ?_ ?_
  ·intro h4 hm
   refine DW.seq (RD hnt (nn 4 []) [1, 2, 3, 18] [(7, pI 0), (8, pI 1)] [1024] [] trivial ?_)
   refine DW.conv (τ := mkSt [(6, rr 1048), (7, pI 0), (8, pI 1)] [(c131e3), (100000, ob0 (roNode []))]) (Conv.trans (τ := mkSt [(6, rr 1048), (7, pI 0), (8, pI 1)] [(c131e2)]) Conv.eqK (Conv.trans (τ := mkSt [(6, rr 1048), (7, pI 0), (8, pI 1)] ((100000, ⟨0, .row 6 0 (elems encNode dNode [])⟩) :: [(c131e3)])) (Conv.adopt 100000 6 (elems encNode dNode []) rfl rfl (.rfl _) (.box (.cons (.nil _ _) (.cons (.rfl _) (.rfl _))) (.rfl _))) Conv.t0)) ?_
   refine DW.ret ?_
   obtain rfl := Option.some.inj hm
   exact retK [roNode []] [100000] (.tup [.agg [ow 0 0, pI 0], pI 0, pI 1])
  ·intro h4 hm
   refine DW.skip ?_
   obtain ⟨r5, hr5, hm⟩ := bind_open hm
   refine DW.seq (DW.seq (RD hnt (nn 2 (.call 88 [] true (pB r5) [] [] :: .no :: [])) [18] [(23, pB (!r5))] [] [] (an (Has_ref5Spec p0 p1 r5 hr5) trivial) ?_))
   refine condM hm ?_ ?_
   ·intro h6 hm
    refine DW.seq (RD hnt (nn 4 []) [1, 2, 3, 23] [(7, pI 0), (8, pI 4)] [1024] [] trivial ?_)
    refine DW.conv (τ := mkSt [(6, rr 1048), (7, pI 0), (8, pI 4)] [(c131e3), (100000, ob0 (roNode []))]) (Conv.trans (τ := mkSt [(6, rr 1048), (7, pI 0), (8, pI 4)] [(c131e2)]) Conv.eqK (Conv.trans (τ := mkSt [(6, rr 1048), (7, pI 0), (8, pI 4)] ((100000, ⟨0, .row 6 0 (elems encNode dNode [])⟩) :: [(c131e3)])) (Conv.adopt 100000 6 (elems encNode dNode []) rfl rfl (.rfl _) (.box (.cons (.nil _ _) (.cons (.rfl _) (.rfl _))) (.rfl _))) Conv.t0)) ?_
    refine DW.ret ?_
    obtain rfl := Option.some.inj hm
    exact retK [roNode []] [100000] (.tup [.agg [ow 0 0, pI 0], pI 0, pI 4])
   ·intro h6 hm
    refine DW.skip ?_
    refine DW.seq (DW.seq (RD hnt (.no :: []) [23] [(9, pI 0)] [] [] trivial ?_))
    refine DW.block ?_
    obtain ⟨hc1, hm⟩ := guard_open hm
    refine DW.rangeO (fun (k1 : Nat) (s1 : Unit) => mkSt [(1, pI p1), (2, pS p2), (3, rr 1024), (6, rr 1048), (9, pI ((k1 : Nat) : Int))] [(c131e4 p0), (c131e2)]) dNode hm Conv.eqK ?_
    intro k1 s1 n1 hk1 hs1 he1
    refine DW.seq (DW.seq (RD hnt (nn 5 []) [] [(29, pB (decide (((k1 : Nat) : Int) < ((p0.nodes.length : Nat) : Int))))] [] [] trivial ?_))
    refine condK (decide (((k1 : Nat) : Int) < ((p0.nodes.length : Nat) : Int))) ?_ ?_
    ·intro h29
     have hlt1 : k1 < p0.nodes.length := by have := of_decide_eq_true h29; omega
     have hm := hs1 hlt1
     unfold Add_ref5L1 at hm
     refine DW.skip ?_
     refine DW.seq (DW.block ?_)
     refine DW.seq (DW.regJ (sl2 := [(1, pI p1), (2, pS p2), (3, rr 1024), (6, rr 1048), (9, pI ((k1 : Nat) : Int)), (49, pB (((p0.nodes.getD k1 (default : Node)).parent == p1) && (beqS (p0.nodes.getD k1 (default : Node)).name p2)))]) (ob2 := [(c131e4 p0), (c131e2)]) ?_ ?_)
     ·rcases bt ((p0.nodes.getD k1 (default : Node)).parent == p1) with h30 | h30
      ·exact RT hnt (nn 17 (pT :: [])) [(49, pB (beqS (p0.nodes.getD k1 (default : Node)).name p2))] (an (nn0 k1) (an (ltc hlt1) (an4 h30 (an (nn0 k1) (an (ltc hlt1) (an5 h30 trivial)))))) (by kernel_rfl) (.cons rfl (.of_eq (by rw [h30]; try rfl)) .nil)
      ·exact RT hnt (nn 9 (sk 8 (pF :: []))) [(49, pB false)] (an (nn0 k1) (an (ltc hlt1) (an3 h30 (an6 h30 trivial)))) (by kernel_rfl) (.cons rfl (.of_eq (by rw [h30]; try rfl)) .nil)
     ·refine condM hm ?_ ?_
      ·intro h31 hm
       refine DW.seq (RD hnt (nn 4 []) [1, 2, 3, 9, 49] [(7, pI 0), (8, pI 5)] [1024] [] trivial ?_)
       refine DW.conv (τ := mkSt [(6, rr 1048), (7, pI 0), (8, pI 5)] [(c131e3), (100000, ob0 (roNode []))]) (Conv.trans (τ := mkSt [(6, rr 1048), (7, pI 0), (8, pI 5)] [(c131e2)]) Conv.eqK (Conv.trans (τ := mkSt [(6, rr 1048), (7, pI 0), (8, pI 5)] ((100000, ⟨0, .row 6 0 (elems encNode dNode [])⟩) :: [(c131e3)])) (Conv.adopt 100000 6 (elems encNode dNode []) rfl rfl (.rfl _) (.box (.cons (.nil _ _) (.cons (.rfl _) (.rfl _))) (.rfl _))) Conv.t0)) ?_
       refine DW.ret ?_
       obtain rfl := Option.some.inj hm
       exact retK [roNode []] [100000] (.tup [.agg [ow 0 0, pI 0], pI 0, pI 5])
      ·intro h31 hm
       refine DW.skip ?_
       refine DW.done ?_
       show DW _ _ _ _ _
       refine RD hnt (nn 3 []) [49] [(9, pI (w64 (((k1 : Nat) : Int) + 1)))] [] [] trivial ?_
       exact joinDone () ⟨hlt1, hm⟩ (Conv.tp [(9, pI (w64 (((k1 : Nat) : Int) + 1)))] [] (by kernel_rfl) (.cons rfl (.of_eq (congrArg pI (w64_succ hlt1 hc1))) .nil) .nil)
    ·intro h29
     have hge1 : ¬ k1 < p0.nodes.length := by have := of_decide_eq_false h29; omega
     have hm := he1 hge1
     unfold Add_ref5D1 at hm
     refine DW.exit ?_
     refine joinQ_exit ?_
     refine KQ_exit ?_
     refine blockQ_exit ?_
     show DW _ _ _ _ _
     obtain ⟨r32, hr32, hm⟩ := bind_open hm
     refine DW.seq (DW.seq ?_)
     refine DW.join (ι := Bool) (fun (y6 : Bool) => mkSt [(1, pI p1), (2, pS p2), (3, rr 1024), (6, rr 1048), (65, pB y6)] [(c131e4 p0), (c131e2)]) (fun y6 => (Add_ref5J6 p0 p1 p2) y6 = some RES) ?_ ?_
     ·intro y6 hm
      unfold Add_ref5J6 at hm
      refine condM hm ?_ ?_
      ·intro h35 hm
       refine DW.seq (RD hnt (nn 4 []) [1, 2, 3, 65] [(7, pI 0), (8, pI 7)] [1024] [] trivial ?_)
       refine DW.conv (τ := mkSt [(6, rr 1048), (7, pI 0), (8, pI 7)] [(c131e3), (100000, ob0 (roNode []))]) (Conv.trans (τ := mkSt [(6, rr 1048), (7, pI 0), (8, pI 7)] [(c131e2)]) Conv.eqK (Conv.trans (τ := mkSt [(6, rr 1048), (7, pI 0), (8, pI 7)] ((100000, ⟨0, .row 6 0 (elems encNode dNode [])⟩) :: [(c131e3)])) (Conv.adopt 100000 6 (elems encNode dNode []) rfl rfl (.rfl _) (.box (.cons (.nil _ _) (.cons (.rfl _) (.rfl _))) (.rfl _))) Conv.t0)) ?_
       refine DW.ret ?_
       obtain rfl := Option.some.inj hm
       exact retK [roNode []] [100000] (.tup [.agg [ow 0 0, pI 0], pI 0, pI 7])
      ·intro h35 hm
       refine DW.skip ?_
       obtain ⟨r36, hr36, hm⟩ := bind_open hm
       refine DW.seq (RD hnt (.no :: .call 122 [] true (.agg [ow 0 r36.nodes.length, pI r36.next]) [] [roNode r36.nodes] :: nn 2 []) [65] [(10, rr 1080)] [] [(1080, bx [ow 1544 r36.nodes.length, pI r36.next]), (1544, ob0 (roNode r36.nodes))] (an (Copy_ref5Spec p0 r36 hr36) trivial) ?_)
       obtain ⟨g37, hm⟩ := guard_open hm
       refine DW.seq (RN hnt (nn 11 []) [(3, rr 1024), (6, rr 1048), (10, rr 1080)] [(c131e4 p0), (c131e2), (1080, bx [ow 1544 (r36.nodes ++ [(c131e1 p0 p1 p2)]).length, pI r36.next]), (1544, ob0 (roNode (r36.nodes ++ [(c131e1 p0 p1 p2)])))] [] [(1080, .box [ow 1544 (r36.nodes.length + 1), pI r36.next]), (1544, .row 6 (r36.nodes.length + 1) (catF r36.nodes.length (elNode r36.nodes) (cut 6 [vi p0.next, vi p1, vs p2, vi 0, vi 0, vi 0])))] (an (by omega : (r36.nodes.length + 1) * 56 ≤ 140737488355328) trivial) (by kernel_rfl) .nil (.cons rfl (.box (.cons (MLe.ownLen (enc := encNode) (d := dNode) (f := (catF r36.nodes.length (elNode r36.nodes) (cut 6 [vi p0.next, vi p1, vs p2, vi 0, vi 0, vi 0]))) (RowIs.cat RowIs.elems (RowIs.lit (enc := encNode) (d := dNode) (n := 1) (f := (cut 6 [vi p0.next, vi p1, vs p2, vi 0, vi 0, vi 0])) [(c131e1 p0 p1 p2)] rfl (fun | 0, _ => rfl | n + 1, h => absurd h (by omega))))) (.cons .rfl .nil))) (.cons rfl (BLe.typed (RowIs.cat RowIs.elems (RowIs.lit (enc := encNode) (d := dNode) (n := 1) (f := (cut 6 [vi p0.next, vi p1, vs p2, vi 0, vi 0, vi 0])) [(c131e1 p0 p1 p2)] rfl (fun | 0, _ => rfl | n + 1, h => absurd h (by omega))))) .nil)) ?_)
       refine DW.seq (RD hnt (nn 5 []) [] [] [] [(1080, bx [ow 1544 (r36.nodes ++ [(c131e1 p0 p1 p2)]).length, pI (w64 (r36.next + 1))])] trivial ?_)
       refine DW.seq (RD hnt (nn 6 []) [3, 10] [(7, pI p0.next), (8, pI 0)] [1024, 1080] [(1048, bx [ow 1544 (r36.nodes ++ [(c131e1 p0 p1 p2)]).length, pI (w64 (r36.next + 1))])] trivial ?_)
       refine DW.ret ?_
       obtain rfl := Option.some.inj hm
       exact retK [roNode (r36.nodes ++ [(c131e1 p0 p1 p2)])] [1544] (.tup [.agg [ow 0 (r36.nodes ++ [(c131e1 p0 p1 p2)]).length, pI (w64 (r36.next + 1))], pI p0.next, pI 0])
     ·rcases bt (decide (r32 ≥ 8)) with h33 | h33
      ·replace hm := if_t h33 hm
       refine RD hnt (nn 2 (.call 164 [] true (pI r32) [] [] :: nn 2 (sk 4 (pT :: .no :: sk 3 (pT :: []))))) [9, 29] [(65, pB true)] [] [] (an (Depth_ref5Spec p0 p1 r32 hr32) (an5 h33 (an4 tt trivial))) ?_
       exact joinDone true hm Conv.eqK
      ·replace hm := if_f h33 hm
       rcases bt (decide (((p0.nodes.length : Nat) : Int) ≥ 64)) with h34 | h34
       ·replace hm := if_t h34 hm
        refine RD hnt (nn 2 (.call 164 [] true (pI r32) [] [] :: nn 6 (pF :: .no :: sk 3 (pT :: [])))) [9, 29] [(65, pB true)] [] [] (an (Depth_ref5Spec p0 p1 r32 hr32) (an5 h33 (an4 h34 trivial))) ?_
        exact joinDone true hm Conv.eqK
       ·replace hm := if_f h34 hm
        refine RD hnt (nn 2 (.call 164 [] true (pI r32) [] [] :: nn 6 (pF :: nn 4 (pF :: [])))) [9, 29] [(65, pB (decide (p0.next > 2147483647)))] [] [] (an (Depth_ref5Spec p0 p1 r32 hr32) (an5 h33 (an4 h34 trivial))) ?_
        exact joinDone (decide (p0.next > 2147483647)) hm Conv.eqK
 ·rcases bt (!r1) with h2 | h2
  ·replace hm := if_t h2 hm
   refine RD hnt (.no :: .call 110 [] true (pB r1) [] [] :: nn 2 (sk 3 (pT :: []))) [] [(18, pB true)] [] [] (an (Check_ref5Spec p0 r1 hr1) (an4 h2 trivial)) ?_
   exact joinDone true hm Conv.eqK
  ·replace hm := if_f h2 hm
   obtain ⟨r3, hr3, hm⟩ := bind_open hm
   refine RD hnt (.no :: .call 110 [] true (pB r1) [] [] :: nn 3 (.call 163 [] true (pB r3) [] [] :: .no :: pF :: [])) [] [(18, pB (!r3))] [] [] (an (Check_ref5Spec p0 r1 hr1) (an2 h2 (an (Valid_ref1Spec p2 r3 hr3) (an2 h2 trivial)))) ?_
   exact joinDone (!r3) hm Conv.eqK

theorem Copy_ref6Spec (p0 : Hierarchy) (RES : Hierarchy) (hm : Copy_ref6 p0 = some RES) : Spec Tryz.prog 105 [.p (.agg (encHierarchy p0))] [] (.agg [ow 0 RES.tree.nodes.length, pI RES.tree.next, ow 1 RES.tasks.length, pI RES.next]) [] [roNode RES.tree.nodes, roTask RES.tasks] := by
 unfold Copy_ref6 at hm
 refine SO Tryz.func105 rfl rfl [(0, .p (.agg (encHierarchy p0)))] [] ?_
 intro cx hnt
 refine DW.seq (RK hnt (nn 2 []) [(1, rr 1008), (2, rr 1016)] [(1008, bx (pm (encHierarchy p0))), (1016, bx [.p (.sl .nil 0 0 (fun _ => [])), pI 0, .p (.sl .nil 0 0 (fun _ => [])), pI 0])] trivial ?_)
 obtain ⟨r1, hr1, hm⟩ := bind_open hm
 obtain ⟨g2, hm⟩ := guard_open hm
 refine DW.seq (RN hnt (nn 2 (.call 122 [] true (.agg [ow 0 r1.nodes.length, pI r1.next]) [] [roNode r1.nodes] :: nn 7 [])) [(2, rr 1016)] [(1016, bx [ow 1040 r1.nodes.length, pI r1.next, ow 1064 p0.tasks.length, pI p0.next]), (1040, ob0 (roNode r1.nodes)), (1064, ob0 (roTask p0.tasks))] [] [(1064, .row 4 p0.tasks.length (elTask p0.tasks))] (an (Copy_ref5Spec p0.tree r1 hr1) (an (by omega : p0.tasks.length * 32 ≤ 140737488355328) trivial)) (by kernel_rfl) .nil (.cons rfl (BLe.typed RowIs.elems) .nil) ?_)
 refine DW.ret ?_
 obtain rfl := Option.some.inj hm
 exact retK [roNode r1.nodes, roTask p0.tasks] [1040, 1064] (.agg [ow 0 r1.nodes.length, pI r1.next, ow 1 p0.tasks.length, pI p0.next])

abbrev c79e1 : Nat × Obj := (1048, bx [ow 100000 0, pI 0, .p (.sl .nil 0 0 (fun _ => [])), pI 0])
abbrev c79e2 : Nat × Obj := (1048, bx [.p (.sl .nil 0 0 (fun _ => [])), pI 0, .p (.sl .nil 0 0 (fun _ => [])), pI 0])
abbrev c79e3 : Nat × Obj := (1048, bx [ow 100000 0, pI 0, ow 100001 0, pI 0])
theorem Create_ref8Spec (p0 : Hierarchy) (p1 : Int) (p2 : ByteArray) (RES : Hierarchy × Int × Int) (hm : Create_ref8 p0 p1 p2 = some RES) : Spec Tryz.prog 79 [.p (.agg (encHierarchy p0)), pI p1, pS p2] [] (.tup [.agg [ow 0 RES.1.tree.nodes.length, pI RES.1.tree.next, ow 1 RES.1.tasks.length, pI RES.1.next], pI RES.2.1, pI RES.2.2]) [] [roNode RES.1.tree.nodes, roTask RES.1.tasks] := by
 unfold Create_ref8 at hm
 refine SO Tryz.func79 rfl rfl [(0, .p (.agg (encHierarchy p0))), (1, pI p1), (2, pS p2)] [] ?_
 intro cx hnt
 refine DW.seq (RD hnt (nn 4 []) [0] [(3, rr 1024), (6, rr 1048)] [] [(1024, bx (pm (encHierarchy p0))), (c79e2)] trivial ?_)
 obtain ⟨r1, hr1, hm⟩ := bind_open hm
 refine DW.seq (DW.seq (RD hnt (.no :: .call 129 [] true (pB r1) [] [] :: .no :: []) [] [(15, pB (!r1))] [] [] (an (Fits_ref8Spec p0 r1 hr1) trivial) ?_))
 refine condM hm ?_ ?_
 ·intro h2 hm
  refine DW.seq (RD hnt (nn 4 []) [1, 2, 3, 15] [(7, pI 0), (8, pI 1)] [1024] [] trivial ?_)
  refine DW.conv (τ := mkSt [(6, rr 1048), (7, pI 0), (8, pI 1)] [(c79e3), (100000, ob0 (roNode [])), (100001, ob0 (roTask []))]) (Conv.trans (τ := mkSt [(6, rr 1048), (7, pI 0), (8, pI 1)] [(c79e2)]) Conv.eqK (Conv.trans (τ := mkSt [(6, rr 1048), (7, pI 0), (8, pI 1)] ((100000, ⟨0, .row 6 0 (elems encNode dNode [])⟩) :: [(c79e1)])) (Conv.adopt 100000 6 (elems encNode dNode []) rfl rfl (.rfl _) (.box (.cons (.nil _ _) (.cons (.rfl _) (.cons (.rfl _) (.cons (.rfl _) (.rfl _))))) (.rfl _))) (Conv.trans (τ := mkSt [(6, rr 1048), (7, pI 0), (8, pI 1)] [(c79e1), (100000, ob0 (roNode []))]) Conv.t0 (Conv.trans (τ := mkSt [(6, rr 1048), (7, pI 0), (8, pI 1)] ((100001, ⟨0, .row 4 0 (elems encTask dTask [])⟩) :: [(c79e3), (100000, ob0 (roNode []))])) (Conv.adopt 100001 4 (elems encTask dTask []) rfl rfl (.rfl _) (.box (.cons (.rfl _) (.cons (.rfl _) (.cons (.nil _ _) (.cons (.rfl _) (.rfl _))))) (.keep (.rfl _)))) Conv.t0)))) ?_
  refine DW.ret ?_
  obtain rfl := Option.some.inj hm
  exact retK [roNode [], roTask []] [100000, 100001] (.tup [.agg [ow 0 0, pI 0, ow 1 0, pI 0], pI 0, pI 1])
 ·intro h2 hm
  refine DW.skip ?_
  obtain ⟨r3, hr3, hm⟩ := bind_open hm
  refine DW.seq (RD hnt (nn 4 (.call 131 [] true (.tup [.agg [ow 0 r3.1.nodes.length, pI r3.1.next], pI r3.2.1, pI r3.2.2]) [] [roNode r3.1.nodes] :: nn 8 [])) [1, 2, 15] [(9, rr 1072), (10, pI r3.2.1), (11, pI r3.2.2)] [] [(1072, bx [ow 1176 r3.1.nodes.length, pI r3.1.next]), (1176, ob0 (roNode r3.1.nodes))] (an (Add_ref5Spec p0.tree p1 p2 r3 hr3) trivial) ?_)
  refine DW.seq (DW.seq (RD hnt (nn 2 []) [] [(27, pB (r3.2.2 != 0))] [] [] trivial ?_))
  refine condM hm ?_ ?_
  ·intro h4 hm
   refine DW.seq (RD hnt (nn 5 []) [3, 9, 10, 11, 27] [(7, pI 0), (8, pI r3.2.2)] [1024, 1072, 1176] [] trivial ?_)
   refine DW.conv (τ := mkSt [(6, rr 1048), (7, pI 0), (8, pI r3.2.2)] [(c79e3), (100000, ob0 (roNode [])), (100001, ob0 (roTask []))]) (Conv.trans (τ := mkSt [(6, rr 1048), (7, pI 0), (8, pI r3.2.2)] [(c79e2)]) Conv.eqK (Conv.trans (τ := mkSt [(6, rr 1048), (7, pI 0), (8, pI r3.2.2)] ((100000, ⟨0, .row 6 0 (elems encNode dNode [])⟩) :: [(c79e1)])) (Conv.adopt 100000 6 (elems encNode dNode []) rfl rfl (.rfl _) (.box (.cons (.nil _ _) (.cons (.rfl _) (.cons (.rfl _) (.cons (.rfl _) (.rfl _))))) (.rfl _))) (Conv.trans (τ := mkSt [(6, rr 1048), (7, pI 0), (8, pI r3.2.2)] [(c79e1), (100000, ob0 (roNode []))]) Conv.t0 (Conv.trans (τ := mkSt [(6, rr 1048), (7, pI 0), (8, pI r3.2.2)] ((100001, ⟨0, .row 4 0 (elems encTask dTask [])⟩) :: [(c79e3), (100000, ob0 (roNode []))])) (Conv.adopt 100001 4 (elems encTask dTask []) rfl rfl (.rfl _) (.box (.cons (.rfl _) (.cons (.rfl _) (.cons (.nil _ _) (.cons (.rfl _) (.rfl _))))) (.keep (.rfl _)))) Conv.t0)))) ?_
   refine DW.ret ?_
   obtain rfl := Option.some.inj hm
   exact retK [roNode [], roTask []] [100000, 100001] (.tup [.agg [ow 0 0, pI 0, ow 1 0, pI 0], pI 0, pI r3.2.2])
  ·intro h4 hm
   refine DW.skip ?_
   obtain ⟨r5, hr5, hm⟩ := bind_open hm
   refine DW.seq (RD hnt (.no :: .call 105 [] true (.agg [ow 0 r5.tree.nodes.length, pI r5.tree.next, ow 1 r5.tasks.length, pI r5.next]) [] [roNode r5.tree.nodes, roTask r5.tasks] :: nn 2 []) [3, 11, 27] [(12, rr 1096)] [1024] [(1096, bx [ow 1248 r5.tree.nodes.length, pI r5.tree.next, ow 1249 r5.tasks.length, pI r5.next]), (1248, ob0 (roNode r5.tree.nodes)), (1249, ob0 (roTask r5.tasks))] (an (Copy_ref6Spec p0 r5 hr5) trivial) ?_)
   refine DW.seq (RD hnt (nn 3 []) [9] [] [1072, 1248] [(1096, bx [ow 1176 r3.1.nodes.length, pI r3.1.next, ow 1249 r5.tasks.length, pI r5.next])] trivial ?_)
   refine DW.seq (RD hnt (nn 5 []) [10, 12] [(7, pI r3.2.1), (8, pI 0)] [1096] [(1048, bx [ow 1176 r3.1.nodes.length, pI r3.1.next, ow 1249 r5.tasks.length, pI r5.next])] trivial ?_)
   refine DW.ret ?_
   obtain rfl := Option.some.inj hm
   exact retK [roNode r3.1.nodes, roTask r5.tasks] [1176, 1249] (.tup [.agg [ow 0 r3.1.nodes.length, pI r3.1.next, ow 1 r5.tasks.length, pI r5.next], pI r3.2.1, pI 0])
end Go.Dm

