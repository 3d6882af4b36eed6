/- Texts of the proof of CpusetSound: the data machine, the models of the Go functions, their contracts. -/
import Derived.Test.YtkkeddafdmjhlaaGreatCpusetSoundA2
import Derived.Test.YtkkeddafdmjhlaaGreatCpusetSoundA1
import Derived.RangeFuncSeq
import Derived.RangeFuncBox
import Derived.Shelf.Abstract
import Derived.WalkKit
import Derived.OwnWalkIn
import Derived.TacticsInMore
import Derived.LoopNIn
import Derived.LoopIn
import Derived.Test.YtkkeddafdmjhlaaGreatProg
set_option linter.unusedVariables false
set_option linter.unusedSimpArgs false
/- Plain theory, part 15: counts. -/
namespace Go.Dm
theorem Acd {t : Ab} (w : WfT t) (id : Int) : Lv t id = some (upT t id) := by
 apply Ok.eq
 have l2 := w.len2
 unfold Lv
 refine Ok.guard (by omega) ?_
 refine Ok.range (fun pre s => s.1 ++ upT t s.2 = upT t id ∧ s.1.length = pre.length) ⟨by simp,rfl⟩ ?_ ?_
 ·rintro pre x post ⟨o,c⟩ n he ⟨i1,i2⟩ hn
  simp only at i1 i2
  unfold Qr Kh
  refine Ok.step (AeW t c (by omega)) ?_
  cases hg : getN t c with
  | none =>
   refine Ok.ret ?_
   have : upT t c = [] := AdN fun y hy e => by
    unfold getN at hg
    rw [List.find?_eq_none] at hg
    have := hg y (by simpa using hy)
    simp [e] at this
   rw [this] at i1
   simpa using i1
  | some y =>
   obtain ⟨hy,hyc⟩ := AcA hg
   have hp : pre.length < t.nodes.length := by rw [he]; simp
   simp only [Option.elim_some,Bool.not_true,Bool.false_eq_true,if_false]
   refine Ok.guard (by omega) (hn _ ⟨?_,by simp [i2]⟩)
   simp only
   rw [← i1,← hyc,w.up hy]
   simp
 ·rintro ⟨o,c⟩ ⟨i1,i2⟩
  simp only at i1 i2
  refine Ok.ret ?_
  have hlen := Xq t.nodes.reverse id
  rw [List.length_reverse] at hlen
  change (upT t id).length ≤ t.nodes.length at hlen
  rw [← i1] at hlen
  have : (upT t c).length = 0 := by
   rw [List.length_append] at hlen
   omega
  have : upT t c = [] := List.length_eq_zero_iff.mp this
  rw [this] at i1
  simpa using i1
end Go.Dm

/- Plain theory, part 16: made counts. -/
namespace Go.Dm
end Go.Dm

/- Plain theory, part 17: room and refusals. -/
namespace Go.Dm
end Go.Dm

/- Plain theory, part 18: sums of counts. -/
namespace Go.Dm
end Go.Dm

/- Plain theory, part 19: charges, limits; the document's functions on counts. -/
namespace Go.Dm
end Go.Dm

/- Plain theory, part 21: what changes leave as it is; sizes of made hierarchies. -/
namespace Go.Dm
end Go.Dm

/- Plain theory, part 22: the program's changes of hierarchies are the document's. -/
namespace Go.Dm
theorem Xv {α : Type} {L : List α} {a n : Nat} {x : α} (h : a + n ≤ L.length) : (Iv L a n x).length = L.length := by
 simp only [Iv,List.length_append,List.length_take,List.length_replicate,List.length_drop]
 omega
theorem Xd {α : Type} {L : List α} {a n : Nat} {x : α} (h : a ≤ L.length) : (Iv L a n x).take a = L.take a := by
 unfold Iv
 rw [List.take_append_of_le_length (by rw [List.length_take]; omega),List.take_take,Nat.min_self]
theorem AgR {α : Type} {L M : List α} {a n : Nat} (h : a + n ≤ L.length) (hm : n ≤ M.length) : (Mh L a n M).length = L.length := by
 simp only [Mh,List.length_append,List.length_take,List.length_drop]
 omega
theorem Adx {α R : Type} {p : α → Bool} {L : List α} {d : α} (hl : L.length ≤ 1000000) {body : List α × Int × Int → (List α × Int × Int → Option R) → Option R} {Q : R → Prop} {i0 : Nat} (hi0 : i0 < L.length) (h0 : ∀ x ∈ L.take i0,p x = false) (hp : p (L.getD i0 d) = true)
  (hb : ∀ (M : List α) (i j : Nat) n,M.length = L.length → i < j → j < L.length → (∀ s,(s = if p (M.getD j d) then (M,(i : Int),((j + 1 : Nat) : Int)) else (M.set i (M.getD j d),((i + 1 : Nat) : Int),((j + 1 : Nat) : Int))) → Ok (n s) Q) → Ok (body (M,(i : Int),(j : Int)) n) Q)
  (hr : ∀ (M : List α) (i : Nat) n,M.length = L.length → i ≤ L.length → M.take i = L.filter (fun x => !p x) → Ok (body (M,(i : Int),(L.length : Int)) n) Q) : Ok (whileO body Ey (L,(i0 : Int),((i0 + 1 : Nat) : Int))) Q := by
 refine Ok.while (fun s => ∃ i j : Nat,s.2.1 = (i : Int) ∧ s.2.2 = (j : Int) ∧ i < j ∧ j ≤ L.length ∧ s.1.length = L.length ∧ s.1.take i = (L.take j).filter (fun x => !p x) ∧ s.1.drop j = L.drop j) (fun s => L.length - s.2.2.toNat) ?_ ?_ ?_
 ·refine ⟨i0,i0 + 1,rfl,rfl,by omega,by omega,rfl,?_,rfl⟩
  have e : L.take (i0 + 1) = L.take i0 ++ [L.getD i0 d] := by
   rw [List.take_add_one,Gy hi0]
   simp [hi0]
  rw [e,List.filter_append,List.filter_eq_self.mpr fun x hx => by simp [h0 x hx]]
  simp only [hp,Bool.not_true,List.filter_cons,Bool.false_eq_true,if_false,List.filter_nil,List.append_nil]
 ·rw [Ef]
  omega
 ·rintro ⟨M,x,y⟩ n ⟨i,j,e1,e2,hij,hj,hM,ht,hd⟩ hn
  simp only at e1 e2 hM ht hd
  subst e1 e2
  by_cases hjl : j < L.length
  ·refine hb M i j n hM hij hjl fun s hs => ?_
   have hMj : M.getD j d = L.getD j d := by
    have := congrArg List.head? hd
    rw [List.head?_drop,List.head?_drop] at this
    rw [List.getD_eq_getElem?_getD,List.getD_eq_getElem?_getD,this]
   have e : L.take (j + 1) = L.take j ++ [L.getD j d] := by
    rw [List.take_add_one,Gy hjl]
    simp [hjl]
   have hd' : M.drop (j + 1) = L.drop (j + 1) := by
    have := congrArg (List.drop 1) hd
    rw [List.drop_drop,List.drop_drop] at this
    exact this
   cases hpj : p (M.getD j d) with
   | true =>
    rw [hpj,if_pos rfl] at hs
    subst hs
    refine hn _ ⟨i,j + 1,rfl,rfl,by omega,by omega,hM,?_,hd'⟩ (by simp only; omega)
    simp only
    rw [ht,e,List.filter_append,← hMj,List.filter_cons,hpj]
    simp
   | false =>
    rw [hpj,if_neg (by simp)] at hs
    subst hs
    refine hn _ ⟨i + 1,j + 1,rfl,rfl,by omega,by omega,by simp [hM],?_,?_⟩ (by simp only; omega)
    ·simp only
     rw [e,List.filter_append,← hMj,← ht]
     have hi : i < M.length := by omega
     rw [List.take_add_one,List.filter_cons,hpj,List.take_set_of_le (Nat.le_refl _),List.getElem?_set_self hi]
     rfl
    ·simp only
     rw [List.drop_set_of_lt (by omega),hd']
  ·obtain rfl : j = L.length := by omega
   refine hr M i n hM (by omega) ?_
   rw [ht,List.take_length]
end Go.Dm

/- Plain theory, part 23: spoiled hierarchies; hierarchies that are refused. -/
namespace Go.Dm
end Go.Dm

/- Plain theory, part 24: kinds of groups, domains, what fits. -/
namespace Go.Dm
def nodeN (t : Ab) (a : Int) : Ag := (getN t a).getD zN
theorem nodeN_id {t : Ab} {id : Int} (h : Di t id = true) : (nodeN t id).id = id ∧ nodeN t id ∈ t.nodes := by
 unfold nodeN Di at *
 cases hg : getN t id with
 | none => rw [hg] at h; simp at h
 | some x => exact ⟨(AcA hg).2,(AcA hg).1⟩
theorem up_cons {t : Ab} (w : WfT t) {id : Int} (h : Di t id = true) : upT t id = id :: upT t (nodeN t id).parent := by
 obtain ⟨e,hx⟩ := nodeN_id h
 have := w.up hx
 rw [e] at this
 exact this
theorem Agz {t : Ab} (w : WfT t) : Di t 1 = true := by
 obtain ⟨n,q,e,hr⟩ := w.root
 exact hasN_iff.mpr ⟨n,by rw [e]; simp,hr.id⟩
theorem Abx {t : Ab} (w : WfT t) {x : Ag} (hx : x ∈ t.nodes) (h1 : x.id ≠ 1) : Di t x.parent = true := by
 rcases w.p.par x hx with ⟨h,_⟩ | ⟨_,_,⟨z,hz,e⟩,_⟩
 ·exact absurd h h1
 ·exact hasN_iff.mpr ⟨z,hz,e⟩
end Go.Dm

/- Plain theory, part 25: forks that are counted. -/
namespace Go.Dm
end Go.Dm

/- Plain theory, part 39: ascending lists; Sorted of the sets; Compact of lists that do not fall. -/
namespace Go.Dm
abbrev Asc (L : List Int) : Prop := L.Pairwise (· < ·)
theorem AcH : ∀ {A B : List Int},Asc A → Asc B → (∀ x,x ∈ A ↔ x ∈ B) → A = B
 | [],B,_,_,h => by
  cases B with
  | nil => rfl
  | cons b B => exact absurd ((h b).mpr (by simp)) (by simp)
 | a :: A,[],_,_,h => absurd ((h a).mp (by simp)) (by simp)
 | a :: A,b :: B,ha,hb,h => by
  rw [Asc,List.pairwise_cons] at ha hb
  have hab : a = b := by
   rcases List.mem_cons.mp ((h a).mp (by simp)) with e | e
   ·exact e
   ·rcases List.mem_cons.mp ((h b).mpr (by simp)) with e' | e'
    ·exact e'.symm
    ·have h1 := hb.1 a e
     have h2 := ha.1 b e'
     omega
  subst hab
  congr 1
  refine AcH ha.2 hb.2 fun x => ?_
  have hx := h x
  simp only [List.mem_cons] at hx
  constructor
  ·intro hm
   rcases hx.mp (.inr hm) with e | e
   ·have := ha.1 x hm
    omega
   ·exact e
  ·intro hm
   rcases hx.mpr (.inr hm) with e | e
   ·have := hb.1 x hm
    omega
   ·exact e
theorem Aam {A : List Int} (h : Asc A) : A.Nodup := h.imp fun h => by omega
theorem put_in {L : List Int} {k : Nat} {x : Int} (hk : k ≤ L.length) : (Mh (L ++ [0]) (k + 1) (Gw (Ce (L ++ [0]).length k) (Ce (L ++ [0]).length (k + 1))) (((L ++ [0]).drop k).take (Ce (L ++ [0]).length k))).set k x = L.take k ++ x :: L.drop k := by
 have e1 : (L ++ [0]).drop k = L.drop k ++ [0] := List.drop_append_of_le_length hk
 have hl : (L ++ [0]).length = L.length + 1 := by simp
 have e2 : Gw (L.length + 1 - k) (L.length + 1 - (k + 1)) = L.length - k := by
  rw [Yi]
  show min _ _ = _
  omega
 have e3 : (L.drop k ++ [0]).take (L.length + 1 - k) = L.drop k ++ [(0 : Int)] := List.take_of_length_le (by simp; omega)
 have e4 : (L.drop k ++ [(0 : Int)]).take (L.length - k) = L.drop k := by
  rw [List.take_append_of_le_length (by simp),List.take_of_length_le (by simp)]
 have e5 : (L ++ [0]).drop (k + 1 + (L.length - k)) = ([] : List Int) := List.drop_of_length_le (by simp; omega)
 have e6 : ∃ y,(L ++ [0]).take (k + 1) = L.take k ++ [y] := by
  rw [List.take_add_one,List.take_append_of_le_length hk]
  have : k < (L ++ [(0 : Int)]).length := by simp; omega
  exact ⟨(L ++ [0])[k],by rw [List.getElem?_eq_getElem this]; rfl⟩
 obtain ⟨y,e6⟩ := e6
 unfold Mh
 rw [Hs,Hs,hl,e2,e1,e3,e4,e5,e6,List.append_nil,List.append_assoc]
 have hlen : (L.take k).length = k := by simp; omega
 rw [List.set_append_right _ _ (by omega),hlen,Nat.sub_self]
 rfl
theorem asc_put {L : List Int} {k : Nat} {x : Int} (h : Asc L) (h1 : ∀ y ∈ L.take k,y < x) (h2 : ∀ y ∈ L.drop k,x < y) : Asc (L.take k ++ x :: L.drop k) := by
 rw [Asc,List.pairwise_append,List.pairwise_cons]
 have hs : Asc (L.take k ++ L.drop k) := by rw [List.take_append_drop]; exact h
 rw [Asc,List.pairwise_append] at hs
 refine ⟨hs.1,⟨h2,hs.2.1⟩,fun a ha b hb => ?_⟩
 rcases List.mem_cons.mp hb with rfl | hb
 ·exact h1 a ha
 ·exact hs.2.2 a ha b hb
theorem AeX {l : List Int} (hl : l.length ≤ 1000000) : Ok (Mu l) (fun r => Asc r ∧ (∀ x,x ∈ r ↔ x ∈ l) ∧ r.length ≤ l.length) := by
 unfold Mu
 refine Ok.guard (by omega) ?_
 refine Ok.range (fun pre s => Asc s ∧ (∀ x,x ∈ s ↔ x ∈ pre) ∧ s.length ≤ pre.length) ⟨List.Pairwise.nil,by simp,by simp⟩ ?_ fun s h => Ok.ret h
 intro pre x post s n he ⟨ha,hm,hlen⟩ hn
 have hsl : s.length ≤ 1000000 := by
  have : pre.length ≤ l.length := by rw [he]; simp
  omega
 unfold Wt
 refine Ok.while (fun s4 => ∃ k : Nat,s4 = (k : Int) ∧ k ≤ s.length ∧ ∀ y ∈ s.drop k,x < y) (fun s4 => s4.toNat) ⟨s.length,rfl,Nat.le_refl _,by simp⟩ (by rw [Ef]; omega) ?_
 rintro _ m ⟨k,rfl,hk,hgt⟩ hm4
 have hJ11 : ∀ r,(Asc r ∧ (∀ y,y ∈ r ↔ y ∈ pre ++ [x]) ∧ r.length ≤ (pre ++ [x]).length) → Ok (Nm n r) (fun r => Asc r ∧ (∀ x,x ∈ r ↔ x ∈ l) ∧ r.length ≤ l.length) := fun r h => hn r h
 have hJ15 : ∀ b,(b = true → x ∈ s) → (b = false → ∀ y ∈ s.take k,y < x) → Ok (Lk x s n (k : Int) b) (fun r => Asc r ∧ (∀ x,x ∈ r ↔ x ∈ l) ∧ r.length ≤ l.length) := by
  intro b h1 h2
  unfold Lk
  refine Ok.ite (fun c => ?_) fun c => ?_
  ·refine hJ11 _ ⟨ha,fun y => ?_,by simp; omega⟩
   rw [hm y,List.mem_append,List.mem_singleton]
   constructor
   ·exact .inl
   ·rintro (h | rfl)
    ·exact h
    ·exact (hm y).mp (h1 c)
  ·have hw : w64 ((k : Int) + 1) = ((k + 1 : Nat) : Int) := by
    rw [As (by omega) (by omega)]
    omega
   have ht : Int.toNat (w64 ((k : Int) + 1)) = k + 1 := by rw [hw]; omega
   have ht0 : Int.toNat (k : Int) = k := by omega
   rw [ht,hw,ht0]
   have hl0 : (s ++ [0]).length = s.length + 1 := by simp
   have hol : (Mh (s ++ [0]) (k + 1) (Gw (Ce (s ++ [0]).length k) (Ce (s ++ [0]).length (k + 1))) (((s ++ [0]).drop k).take (Ce (s ++ [0]).length k))).length = s.length + 1 := by
    rw [AgR,hl0]
    ·rw [hl0,Hs,Hs,Yi]
     show k + 1 + min _ _ ≤ _
     omega
    ·rw [List.length_take,List.length_drop,hl0,Hs,Hs,Yi]
     show min _ _ ≤ _
     omega
   refine Ok.guard (by omega) (Ok.guard ⟨by omega,by rw [hl0]; omega⟩ (Ok.guard ⟨by omega,by rw [hl0]; omega⟩ (Ok.guard (by rw [hl0,Hs]; omega) (Ok.guard ⟨by omega,by rw [hol]; omega⟩ (Ok.guard (by rw [hol]; omega) ?_)))))
   rw [put_in hk]
   refine hJ11 _ ⟨asc_put ha (h2 c) hgt,fun y => ?_,by simp; omega⟩
   rw [List.mem_append,List.mem_cons,List.mem_append,List.mem_singleton,← hm y]
   constructor
   ·rintro (h | rfl | h)
    ·exact .inl (List.mem_of_mem_take h)
    ·exact .inr rfl
    ·exact .inl (List.mem_of_mem_drop h)
   ·rintro (h | rfl)
    ·rw [← List.take_append_drop k s,List.mem_append] at h
     rcases h with h | h
     ·exact .inl h
     ·exact .inr (.inr h)
    ·exact .inr (.inl rfl)
 by_cases k0 : k = 0
 ·subst k0
  unfold Ss Li
  rw [if_neg (by simp),if_neg (by simp),if_neg (by simp)]
  exact hJ15 _ (by simp) (by simp)
 ·have hw : w64 ((k : Int) - 1) = ((k - 1 : Nat) : Int) := by
   rw [As (by omega) (by omega)]
   omega
  have ht : Int.toNat (((k - 1 : Nat) : Int)) = k - 1 := by omega
  have hkl : k - 1 < s.length := by omega
  have hd : s.drop (k - 1) = s.getD (k - 1) 0 :: s.drop k := by
   rw [List.drop_eq_getElem_cons hkl,Gy hkl,Nat.sub_add_cancel (by omega)]
  have htk : s.take k = s.take (k - 1) ++ [s.getD (k - 1) 0] := by
   have : k = k - 1 + 1 := by omega
   rw [this,List.take_add_one,Gy (by omega),List.getElem?_eq_getElem (by omega)]
   rfl
  have hlast : ∀ y ∈ s.take (k - 1),y < s.getD (k - 1) 0 := by
   have hs : Asc (s.take k) := ha.sublist (List.take_sublist _ _)
   rw [htk,Asc,List.pairwise_append] at hs
   intro y hy
   exact hs.2.2 y hy _ (by simp)
  unfold Ss
  rw [hw,ht]
  refine Ok.ite (fun _ => Ok.guard ⟨by omega,by omega⟩ (Ok.guard hkl ?_)) fun c => by simp at c; omega
  unfold Li
  rw [hw,ht]
  refine Ok.ite (fun c => ?_) fun c => ?_
  ·have hx : x < s.getD (k - 1) 0 := by simpa using c
   refine hm4 _ ⟨k - 1,rfl,by omega,?_⟩ (by omega)
   rw [hd]
   intro y hy
   rcases List.mem_cons.mp hy with rfl | hy
   ·exact hx
   ·exact hgt y hy
  ·have hx : ¬ x < s.getD (k - 1) 0 := by simpa using c
   refine Ok.ite (fun _ => Ok.guard ⟨by omega,by omega⟩ (Ok.guard hkl ?_)) fun c => by simp at c; omega
   refine hJ15 _ (fun c => ?_) (fun c => ?_)
   ·have : s.getD (k - 1) 0 = x := by simpa using c
    rw [← this]
    exact Vg hkl
   ·have hne : s.getD (k - 1) 0 ≠ x := by simpa using c
    rw [htk]
    intro y hy
    rcases List.mem_append.mp hy with hy | hy
    ·have := hlast y hy
     omega
    ·have : y = s.getD (k - 1) 0 := by simpa using hy
     omega
theorem Zz {l : List Int} (hl : l.length ≤ 1000000) (ha : Asc l) : Mu l = some l :=
 ((AeX hl).mono fun _ ⟨h1,h2,_⟩ => AcH h1 ha h2).eq
theorem le_at {L : List Int} (h : L.Pairwise (· ≤ ·)) {i j : Nat} (hij : i ≤ j) (hj : j < L.length) : L.getD i 0 ≤ L.getD j 0 := by
 by_cases e : i = j
 ·subst e
  omega
 ·rw [Gy hj,Gy (by omega)]
  exact List.pairwise_iff_getElem.mp h i j (by omega) hj (by omega)
theorem Ft {L : List Int} {k : Nat} (h : k < L.length) : L.take (k + 1) = L.take k ++ [L.getD k 0] := by
 rw [List.take_add_one,Gy h,List.getElem?_eq_getElem h]
 rfl
theorem AhQ {L : List Int} (hl : L.length ≤ 1000000) (h : L.Pairwise (· ≤ ·)) : Ok (Is L) (fun r => r.2.length = L.length ∧ r.1 ≤ L.length ∧ Asc (r.2.take r.1) ∧ ∀ x,x ∈ r.2.take r.1 ↔ x ∈ L) := by
 have whole : Asc L → (L.length,L).2.length = L.length ∧ (L.length,L).1 ≤ L.length ∧ Asc ((L.length,L).2.take (L.length,L).1) ∧ ∀ x,x ∈ (L.length,L).2.take (L.length,L).1 ↔ x ∈ L := by
  intro ha
  refine ⟨rfl,Nat.le_refl _,?_,fun x => ?_⟩
  ·show Asc (L.take L.length)
   rw [List.take_length]
   exact ha
  ·show x ∈ L.take L.length ↔ x ∈ L
   rw [List.take_length]
 unfold Is
 refine Ok.ite (fun c => Ok.ret (whole ?_)) fun c => ?_
 ·have : L.length < 2 := by
   have : ((L.length : Nat) : Int) < 2 := by simpa using c
   omega
  match L,this with
  | [],_ => exact List.Pairwise.nil
  | [a],_ => simp [Asc]
 have hl2 : 2 ≤ L.length := by
  have : ¬ ((L.length : Nat) : Int) < 2 := by simpa using c
  omega
 refine Ok.guard (by omega) ?_
 refine Ok.for (fun j _ => Asc (L.take (j + 1))) ?_ ?_ ?_
 ·rw [Ft (by omega)]
  simp [Asc]
 ·intro j _ n hj ha hn
  have hj' : j + 1 < L.length := by omega
  have hw : w64 (1 + (j : Int) - 1) = (j : Int) := by
   rw [As (by omega) (by omega)]
   omega
  have e1 : Int.toNat (1 + (j : Int)) = j + 1 := by omega
  have e0 : Int.toNat (j : Int) = j := by omega
  unfold Om
  rw [hw,e1,e0]
  refine Ok.guard ⟨by omega,by omega⟩ (Ok.guard hj' (Ok.guard ⟨by omega,by omega⟩ (Ok.guard (by omega) ?_)))
  refine Ok.ite (fun c => ?_) fun c => ?_
  ·have heq : L.getD (j + 1) 0 = L.getD j 0 := by simpa using c
   refine Ok.guard ⟨by omega,by omega⟩ (Ok.guard (by rw [Hs]; omega) ?_)
   refine Ok.for (fun q s => ∃ k : Nat,s.2 = (k : Int) ∧ s.1.length = L.length ∧ 1 ≤ k ∧ k ≤ j + 1 + q ∧ s.1.drop (j + 1 + q) = L.drop (j + 1 + q) ∧ Asc (s.1.take k) ∧ (∀ x,x ∈ s.1.take k ↔ x ∈ L.take (j + 1 + q + 1)) ∧ s.1.getD (k - 1) 0 = L.getD (j + 1 + q) 0) ?_ ?_ ?_
   ·refine ⟨j + 1,by simp only; omega,rfl,by omega,by omega,rfl,ha,fun x => ?_,?_⟩
    ·show x ∈ L.take (j + 1) ↔ x ∈ L.take (j + 1 + 0 + 1)
     rw [Nat.add_zero,Ft (k := j + 1) hj',List.mem_append,heq]
     constructor
     ·exact .inl
     ·rintro (h | h)
      ·exact h
      ·have : x = L.getD j 0 := by simpa using h
       rw [this,Ft (k := j) (by omega)]
       simp
    ·simp only [Nat.add_sub_cancel,Nat.add_zero]
     exact heq.symm
   ·rintro q ⟨M,k'⟩ m hq ⟨k,e2,hM,k1,hk,hd,hasc,hmem,hlast⟩ hm
    simp only at e2 hM hd hasc hmem hlast
    subst e2
    rw [Hs] at hq
    have hw2 : w64 (1 + (q : Int) - 1) = (q : Int) := by
     rw [As (by omega) (by omega)]
     omega
    have e3 : Int.toNat (1 + (q : Int)) = q + 1 := by omega
    have e4 : Int.toNat (q : Int) = q := by omega
    have hqL : j + 1 + q + 1 < L.length := by omega
    have hget : ∀ i,j + 1 + q ≤ i → M.getD i 0 = L.getD i 0 := by
     intro i hi
     have h1 : M.getD i 0 = (M.drop (j + 1 + q)).getD (i - (j + 1 + q)) 0 := by
      simp only [List.getD_eq_getElem?_getD,List.getElem?_drop]
      congr 2
      omega
     have h2 : L.getD i 0 = (L.drop (j + 1 + q)).getD (i - (j + 1 + q)) 0 := by
      simp only [List.getD_eq_getElem?_getD,List.getElem?_drop]
      congr 2
      omega
     rw [h1,h2,hd]
    unfold Pa
    simp only
    rw [hw2,e1,e3,e4,Hs,Tm,Tm,hget (j + 1 + (q + 1)) (by omega),hget (j + 1 + q) (by omega),hM]
    refine Ok.guard ⟨by omega,by omega⟩ (Ok.guard (by omega) (Ok.guard ⟨by omega,by omega⟩ (Ok.guard (by omega) ?_)))
    have hk' : Int.toNat (k : Int) = k := by omega
    have hle := le_at h (i := j + 1 + q) (j := j + 1 + (q + 1)) (by omega) (by omega)
    have htake : L.take (j + 1 + (q + 1) + 1) = L.take (j + 1 + q + 1) ++ [L.getD (j + 1 + (q + 1)) 0] := Ft (k := j + 1 + (q + 1)) (by omega)
    have hin : L.getD (j + 1 + q) 0 ∈ L.take (j + 1 + q + 1) := by
     rw [Ft (by omega)]
     simp
    refine Ok.ite (fun c => ?_) fun c => ?_
    ·have hne : L.getD (j + 1 + (q + 1)) 0 ≠ L.getD (j + 1 + q) 0 := by simpa using c
     refine Ok.guard ⟨by omega,by omega⟩ (Ok.guard (by omega) (Ok.guard ⟨by omega,by omega⟩ (Ok.guard (by rw [hk']; omega) ?_)))
     rw [hk']
     have hwk : w64 ((k : Int) + 1) = ((k + 1 : Nat) : Int) := by
      rw [As (by omega) (by omega)]
      omega
     have hset : (M.set k (L.getD (j + 1 + (q + 1)) 0)).take (k + 1) = M.take k ++ [L.getD (j + 1 + (q + 1)) 0] := by
      rw [Ft (by rw [List.length_set]; omega),List.take_set_of_le (Nat.le_refl _)]
      congr 2
      rw [List.getD_eq_getElem?_getD,List.getElem?_set_self (by omega)]
      rfl
     refine hm _ ⟨k + 1,by rw [hwk],by simp [hM],by omega,by omega,?_,?_,?_,?_⟩
     ·show (M.set k _).drop (j + 1 + (q + 1)) = L.drop (j + 1 + (q + 1))
      rw [List.drop_set_of_lt (by omega),show j + 1 + (q + 1) = j + 1 + q + 1 by omega,← List.drop_drop,hd,List.drop_drop]
     ·show Asc ((M.set k _).take (k + 1))
      rw [hset,Asc,List.pairwise_append]
      refine ⟨hasc,by simp,fun a ha b hb => ?_⟩
      have hb' : b = L.getD (j + 1 + (q + 1)) 0 := by simpa using hb
      have hkk : k = k - 1 + 1 := by omega
      rw [hkk,Ft (by omega),List.mem_append] at ha
      rcases ha with ha | ha
      ·have h2 := hasc
       rw [hkk,Ft (by omega),Asc,List.pairwise_append] at h2
       have := h2.2.2 a ha _ (List.mem_singleton.mpr rfl)
       omega
      ·have : a = M.getD (k - 1) 0 := by simpa using ha
       omega
     ·intro x
      show x ∈ (M.set k _).take (k + 1) ↔ _
      rw [hset,htake,List.mem_append,List.mem_append,hmem x]
     ·show (M.set k _).getD (k + 1 - 1) 0 = _
      rw [Nat.add_sub_cancel,List.getD_eq_getElem?_getD,List.getElem?_set_self (by omega)]
      rfl
    ·have heq2 : L.getD (j + 1 + (q + 1)) 0 = L.getD (j + 1 + q) 0 := by simpa using c
     refine hm _ ⟨k,rfl,hM,k1,by omega,?_,hasc,?_,?_⟩
     ·show M.drop (j + 1 + (q + 1)) = L.drop (j + 1 + (q + 1))
      rw [show j + 1 + (q + 1) = j + 1 + q + 1 by omega,← List.drop_drop,hd,List.drop_drop]
     ·intro x
      show x ∈ M.take k ↔ _
      rw [htake,List.mem_append,hmem x]
      constructor
      ·exact .inl
      ·rintro (h | h)
       ·exact h
       ·have : x = L.getD (j + 1 + (q + 1)) 0 := by simpa using h
        rw [this,heq2]
        exact hin
     ·show M.getD (k - 1) 0 = _
      rw [hlast]
      exact heq2.symm
   ·rintro ⟨M,k'⟩ ⟨k,e2,hM,k1,hk,hd,hasc,hmem,hlast⟩
    simp only at e2 hM hd hasc hmem hlast
    subst e2
    have hm0 : Int.toNat ((((Ce L.length (j + 1)) : Nat) : Int) - 1) = L.length - (j + 1) - 1 := by
     rw [Hs]
     omega
    rw [hm0] at hk hmem
    have hk' : Int.toNat (k : Int) = k := by omega
    unfold Ol
    simp only
    rw [hk',hM,Hs]
    have hfl : (Iv M k (L.length - k) 0).length = L.length := by
     rw [Xv (by omega),hM]
    refine Ok.guard ⟨by omega,by omega⟩ (Ok.guard (by omega) (Ok.guard ⟨by omega,by rw [hfl]; omega⟩ (Ok.ret ?_)))
    refine ⟨hfl,by show k ≤ _; omega,?_,?_⟩
    ·show Asc ((Iv M k (L.length - k) 0).take k)
     rw [Xd (by omega)]
     exact hasc
    ·intro x
     show x ∈ (Iv M k (L.length - k) 0).take k ↔ x ∈ L
     rw [Xd (by omega),hmem x,List.take_of_length_le (by omega)]
  ·have hne : L.getD (j + 1) 0 ≠ L.getD j 0 := by simpa using c
   refine hn () ?_
   have hle := le_at h (i := j) (j := j + 1) (by omega) hj'
   rw [Ft (k := j + 1) hj',Asc,List.pairwise_append]
   refine ⟨ha,by simp,fun a ha' b hb => ?_⟩
   have hb' : b = L.getD (j + 1) 0 := by simpa using hb
   rw [Ft (by omega),List.mem_append] at ha'
   rcases ha' with ha' | ha'
   ·have h2 := ha
    rw [Ft (by omega),Asc,List.pairwise_append] at h2
    have := h2.2.2 a ha' _ (List.mem_singleton.mpr rfl)
    omega
   ·have : a = L.getD j 0 := by simpa using ha'
    omega
 ·intro _ ha
  refine Ok.ret (whole ?_)
  have : Int.toNat (((L.length : Nat) : Int) - 1) + 1 = L.length := by omega
  rw [this,List.take_length] at ha
  exact ha
theorem sortU_ok {L : List Int} (hl : L.length ≤ 1000) : ∃ M,Hx L = some M ∧ M.length = L.length ∧ ∃ r,Is M = some r ∧ r.2.length = M.length ∧ r.1 ≤ M.length ∧ Asc (r.2.take r.1) ∧ ∀ x,x ∈ r.2.take r.1 ↔ x ∈ L := by
 obtain ⟨M,h1,h2,h3⟩ := Sort_ok L hl
 have hlen := h2.length_eq
 obtain ⟨r,g1,g2,g3,g4,g5⟩ := AhQ (L := M) (by omega) h3
 exact ⟨M,h1,hlen,r,g1,g2,g3,g4,fun x => (g5 x).trans h2.mem_iff⟩
end Go.Dm

/- Plain theory, part 30: what keeps Fits; all made hierarchies fit. -/
namespace Go.Dm
section
variable {t t' : Ab} {fn : Ag → Ag}
end
section
variable {t t' : Ab} {p : Int} {s : ByteArray}
end
end Go.Dm

/- Plain theory, part 31: threaded's functions. -/
namespace Go.Dm
theorem AgK {t : Ab} (hm : ∀ x ∈ t.nodes,AcX x) (w : ¬ WfT t) : Ow t = some false := by
 obtain ⟨b,hb,e⟩ := AbG t hm
 cases b
 ·exact hb
 ·exact absurd (e.mp rfl) w
end Go.Dm

/- Plain theory, part 32: new groups. -/
namespace Go.Dm
end Go.Dm

/- Plain theory, part 33: controllers are written, groups are made threaded. -/
namespace Go.Dm
end Go.Dm

/- Plain theory, part 34: names of made groups are short. -/
namespace Go.Dm
end Go.Dm

/- Plain theory, part 35: rights of users. -/
namespace Go.Dm
end Go.Dm

/- Plain theory, part 36: acts of users. -/
namespace Go.Dm
theorem AeM (l : List Int) (hl : l.length ≤ 1000000) : Ir l l = some true := by
 unfold Ir
 rw [if_neg (by simp),if_pos (by omega)]
 apply Ok.eq
 refine Ok.range (fun _ _ => True) trivial ?_ fun _ _ => Ok.ret rfl
 intro pre x post s n he _ hn
 unfold AaA
 have hi : pre.length < l.length := by
  rw [he]
  simp
 rw [if_pos hi]
 have : l.getD pre.length 0 = x := by
  rw [he]
  exact Yu
 rw [this,if_neg (by simp)]
 exact hn () trivial
end Go.Dm

/- Plain theory, part 40: what is read of any hierarchy; processes; hierarchies that were handed in. -/
namespace Go.Dm
end Go.Dm

/- Plain theory of freezers, part 1: what is read; valid freezers. -/
namespace Go.Dm
def zF (g : Int) : Frost := { group := g,want := false,frozen := false,changes := 0 }
def frN (f : AaS) (g : Int) : Frost := (f.frosts.find? (fun x => x.group == g)).getD (zF g)
def wN (t : Ab) (f : AaS) (id : Int) : Bool := (upT t id).any (fun g => (frN f g).want)
def rN (h : Acy) (f : AaS) (id : Int) : Bool := wN h.tree f id && h.tasks.all (fun x => !(upT h.tree x.group).contains id || f.stopped.contains x.id)
section
variable {h : Acy} {t : Ab} {f f' : AaS}
theorem Aea {pre : List Int} {x : Int} (a : Asc pre) (h1 : ∀ y ∈ pre,y < x) : Asc (pre ++ [x]) := by
 rw [Asc,List.pairwise_append]
 exact ⟨a,by simp,fun y hy z hz => by rw [List.mem_singleton.mp hz]; exact h1 y hy⟩
end
end Go.Dm

/- Plain theory of freezers, part 2: what changes make of them. -/
namespace Go.Dm
theorem AbF (l : List Int) (x : Int) (hl : l.length ≤ 9223372036854775807) : Fo l x = some (l.contains x) := by
 unfold Fo Lw
 rw [if_pos (by omega),Ms (p := fun y : Int => x == y) (fun k y n => rfl) rfl,Option.bind_some]
 rcases Qj (fun y : Int => x == y) l 0 with ⟨i,h1,h2,h3⟩ | ⟨h1,h2⟩
 ·rw [h2]
  have hm := List.mem_of_find?_eq_some h3
  have he := List.find?_some h3
  have : l.contains x = true := by
   rw [List.contains_iff_mem]
   have : x = l.getD i 0 := by simpa using he
   rw [this]
   exact hm
  rw [this]
  simp
 ·rw [h1]
  have : l.contains x = false := by
   rw [List.find?_eq_none] at h2
   cases hc : l.contains x
   ·rfl
   ·rw [List.contains_iff_mem] at hc
    have := h2 x hc
    simp at this
  rw [this]
  simp
theorem AbL (l : List Int) (x : Int) (hl : l.length ≤ 9223372036854775807) : Kp l x = some (l.contains x) := by
 unfold Kp
 rw [if_pos (by omega),Aba (p := fun y : Int => y == x) (f := fun _ => true) (z := false) (fun k y n => rfl) rfl]
 congr 1
 cases hf : l.find? (fun y => y == x) with
 | none =>
  rw [List.find?_eq_none] at hf
  cases hc : l.contains x
  ·rfl
  ·rw [List.contains_iff_mem] at hc
   have := hf x hc
   simp at this
 | some y =>
  have hm := List.mem_of_find?_eq_some hf
  have he := List.find?_some hf
  have : y = x := by simpa using he
  rw [this] at hm
  simp [hm]
section
variable {h : Acy} {f : AaS}
theorem Oi {l : List Int} (hl : l.length ≤ 1000000) : Cc l = some l := by
 unfold Cc
 rw [if_pos (by omega)]
end
end Go.Dm

/- Plain theory of processor sets, part 1: settings, sets of small numbers. -/
namespace Go.Dm
set_option linter.unusedVariables false
set_option linter.unusedSimpArgs false
def okSet (n : Int) (L : List Int) : Prop := Asc L ∧ ∀ x ∈ L,0 ≤ x ∧ x < n
theorem Afn : ∀ {L : List Int} {a n : Int},Asc L → (∀ x ∈ L,a ≤ x ∧ x < n) → (L.length : Int) ≤ max 0 (n - a)
 | [],a,n,_,_ => by simp; omega
 | x :: r,a,n,h,hb => by
  rw [Asc,List.pairwise_cons] at h
  have hx := hb x (by simp)
  have ih := Afn (L := r) (a := x + 1) (n := n) h.2 (fun y hy => ⟨by have := h.1 y hy; omega,(hb y (by simp [hy])).2⟩)
  simp only [List.length_cons]
  omega
theorem okSet.len {n : Int} {L : List Int} (h : okSet n L) (hn : 0 ≤ n) : (L.length : Int) ≤ n := by
 have := Afn h.1 h.2
 omega
theorem Ea {m : Option Bool} {rest : Option Bool} {P R : Prop} (h : Ok m (fun b => b = true ↔ P)) (k : P → Ok rest (fun b => b = true ↔ R)) : Ok (Option.bind m fun r => if r then rest else some false) (fun b => b = true ↔ P ∧ R) := by
 refine Ok.bind h fun r hr => Ok.ite (fun c => ?_) fun c => Ok.ret ?_
 ·have hp := hr.mp c
  exact (k hp).mono fun b hb => by rw [hb]; simp [hp]
 ·have : ¬ P := fun hp => by rw [hr.mpr hp] at c; simp at c
  simp [this]
theorem Xe {m : Option Bool} {P : Prop} (h : Ok m (fun b => b = true ↔ P)) : Ok (Option.bind m fun r => some r) (fun b => b = true ↔ P) := Ok.bind h fun r hr => Ok.ret hr
theorem Ho (a lo hi : Int) : Ok (Co a lo hi) (fun b => b = true ↔ (lo ≤ a ∧ a ≤ hi)) := by
 unfold Co
 exact Ok.ret (by simp)
theorem Hr (a lo hi : Int) : Ok (Fh a lo hi) (fun b => b = true ↔ ((lo ≤ a ∧ a ≤ hi) ∨ a = 4611686018427387904)) := by
 unfold Fh
 exact Ok.ret (by simp)
theorem prev_ok {pre post : List Int} {x d : Int} (hl : pre.length + 1 ≤ 9223372036854775807) (h : 0 < pre.length) : w64 (((pre.length : Nat) : Int) - 1) = ((pre.length - 1 : Nat) : Int) := by
 rw [As (by omega) (by omega)]
 omega
theorem Nr (L : List Int) (n : Int) (hl : L.length ≤ 9223372036854775807) : Ok (Ka L n) (fun b => b = true ↔ okSet n L) := by
 unfold Ka
 refine Ok.guard hl ?_
 refine Ok.range (fun pre _ => okSet n pre) ⟨List.Pairwise.nil,fun x hx => by simp at hx⟩ ?_ fun _ h => Ok.ret (by simp [h])
 intro pre x post s m he hp hn
 unfold Xy Ly
 have hlen : pre.length + 1 ≤ L.length := by rw [he]; simp
 refine Ok.ite (fun c => Ok.ret ?_) fun c => Ok.ite (fun c2 => Ok.ret ?_) fun c2 => ?_
 ·have c := of_decide_eq_true c
  simp only [Bool.false_eq_true,false_iff]
  intro ⟨_,hb⟩
  have := hb x (by rw [he]; simp)
  omega
 ·have c2 := of_decide_eq_true c2
  simp only [Bool.false_eq_true,false_iff]
  intro ⟨_,hb⟩
  have := hb x (by rw [he]; simp)
  omega
 ·have c := of_decide_eq_false c
  have c2 := of_decide_eq_false c2
  refine Ok.ite (fun c3 => ?_) fun c3 => ?_
  ·have c3 := of_decide_eq_true c3
   have h0 : 0 < pre.length := by omega
   rw [prev_ok (post := post) (x := x) (d := 0) (by omega) h0]
   refine Ok.guard (by omega) ?_
   have hlast : L.getD (pre.length - 1) 0 = pre.getD (pre.length - 1) 0 := by
    rw [he,List.getD_eq_getElem?_getD,List.getD_eq_getElem?_getD,List.getElem?_append_left (by omega)]
   simp only [Int.toNat_natCast,hlast]
   refine Ok.ite (fun c4 => Ok.ret ?_) fun c4 => ?_
   ·have c4 := of_decide_eq_true c4
    simp only [Bool.false_eq_true,false_iff]
    intro ⟨ha,_⟩
    rw [he,Asc,List.pairwise_append] at ha
    have := ha.2.2 (pre.getD (pre.length - 1) 0) (Vg (by omega)) x (by simp)
    omega
   ·have c4 := of_decide_eq_false c4
    refine hn () ⟨?_,fun y hy => ?_⟩
    ·refine Aea hp.1 fun y hy => ?_
     obtain ⟨j,hj,rfl⟩ := List.getElem_of_mem hy
     have hle : pre[j] ≤ pre.getD (pre.length - 1) 0 := by
      have := le_at (L := pre) (hp.1.imp (fun h => Int.le_of_lt h)) (i := j) (j := pre.length - 1) (by omega) (by omega)
      rwa [Gy hj] at this
     omega
    ·rcases List.mem_append.mp hy with h | h
     ·exact hp.2 y h
     ·simp at h; subst h; omega
  ·have c3 := of_decide_eq_false c3
   have h0 : pre = [] := List.eq_nil_of_length_eq_zero (by omega)
   subst h0
   refine Ok.ite (fun c => by simp at c) fun _ => hn () ⟨by simp [Asc],fun y hy => by simp at hy; subst hy; omega⟩
theorem Zk (m : Hl) : ∃ b,Fj m = some b := by
 obtain ⟨b,h,_⟩ : Ok (Fj m) (fun _ => True) := by
  unfold Fj Gs
  refine Ok.bind (Hr _ _ _) fun _ _ => Ok.ite (fun _ => ?_) fun _ => Ok.ret trivial
  refine Ok.bind (Hr _ _ _) fun _ _ => Ok.ite (fun _ => ?_) fun _ => Ok.ret trivial
  refine Ok.bind (Hr _ _ _) fun _ _ => Ok.ite (fun _ => ?_) fun _ => Ok.ret trivial
  refine Ok.bind (Hr _ _ _) fun _ _ => Ok.ite (fun _ => ?_) fun _ => Ok.ret trivial
  exact Ok.bind (Hr _ _ _) fun _ _ => Ok.ret trivial
 exact ⟨b,h⟩
theorem Xw (L : List Ax) (hl : L.length ≤ 9223372036854775807) : ∃ b,Ei L = some b := by
 obtain ⟨b,h,_⟩ : Ok (Ei L) (fun _ => True) := by
  unfold Ei
  refine Ok.guard hl ?_
  refine Ok.range (fun _ _ => True) trivial ?_ fun _ _ => Ok.ret trivial
  intro pre x post s n he _ hn
  have hlen : pre.length + 1 ≤ L.length := by rw [he]; simp
  have hj : ∀ b,Ok (Bb n b) (fun _ => True) := by
   intro b
   unfold Bb
   exact Ok.ite (fun _ => Ok.ret trivial) fun _ => hn () trivial
  unfold Qy
  refine Ok.ite (fun _ => hj _) fun _ => Ok.ite (fun _ => hj _) fun _ => Ok.ite (fun c3 => ?_) fun _ => ?_
  ·have c3 := of_decide_eq_true c3
   refine Ok.guard (by rw [As (by omega) (by omega)]; omega) ?_
   refine Ok.ite (fun _ => hj _) fun _ => Ok.ite (fun _ => hj _) fun _ => Ok.ite (fun _ => hj _) fun _ => ?_
   refine Ok.bind (Hr _ _ _) fun _ _ => Ok.ite (fun _ => hj _) fun _ => ?_
   refine Ok.bind (Hr _ _ _) fun _ _ => Ok.ite (fun _ => hj _) fun _ => ?_
   refine Ok.bind (Hr _ _ _) fun _ _ => Ok.ite (fun _ => hj _) fun _ => ?_
   refine Ok.bind (Hr _ _ _) fun _ _ => Ok.ite (fun _ => hj _) fun _ => ?_
   exact Ok.ite (fun _ => hj _) fun _ => hj _
  ·refine Ok.ite (fun _ => hj _) fun _ => Ok.ite (fun _ => hj _) fun _ => ?_
   refine Ok.bind (Hr _ _ _) fun _ _ => Ok.ite (fun _ => hj _) fun _ => ?_
   refine Ok.bind (Hr _ _ _) fun _ _ => Ok.ite (fun _ => hj _) fun _ => ?_
   refine Ok.bind (Hr _ _ _) fun _ _ => Ok.ite (fun _ => hj _) fun _ => ?_
   refine Ok.bind (Hr _ _ _) fun _ _ => Ok.ite (fun _ => hj _) fun _ => ?_
   exact Ok.ite (fun _ => hj _) fun _ => hj _
 exact ⟨b,h⟩
def BandP (s : Aq) : Prop := (1 ≤ s.period ∧ s.period ≤ 1000000) ∧ if s.quota = 4611686018427387904 then s.burst = 0 else (1 ≤ s.quota ∧ s.quota ≤ 1000000) ∧ 0 ≤ s.burst ∧ s.burst ≤ s.quota
theorem AbJ (s : Aq) : Ok (Iq s) (fun b => b = true ↔ BandP s) := by
 unfold Iq Jc Hq BandP
 refine Ok.ite (fun c => ?_) fun c => ?_
 ·have c := beq_iff_eq.mp c
  rw [if_pos c]
  exact Ea (Ho _ _ _) fun _ => Ok.ret (by simp)
 ·have c : ¬ s.quota = 4611686018427387904 := by simpa using c
  rw [if_neg c]
  exact Ea (Ho _ _ _) fun _ => Ea (Ho _ _ _) fun _ => Xe (Ho _ _ _)
def RestP (s : Aq) : Prop :=
 (1 ≤ s.weight ∧ s.weight ≤ 10000) ∧ BandP s ∧ (0 ≤ s.clampMin ∧ s.clampMin ≤ 10000) ∧ (0 ≤ s.clampMax ∧ s.clampMax ≤ 10000) ∧ okSet 16 s.cpus ∧ okSet 8 s.mems ∧ (0 ≤ s.partition ∧ s.partition ≤ 1) ∧
 Fj s.memory = some true ∧ Ei s.devices = some true
def CheckP (s : Aq) : Prop := (s.pidsMax = 4611686018427387904 ∨ (0 ≤ s.pidsMax ∧ s.pidsMax ≤ 1099511627776)) ∧ RestP s
structure En (s : Aq) : Prop where
 cpus : s.cpus.length ≤ 1000000
 mems : s.mems.length ≤ 1000000
 devices : s.devices.length ≤ 1000000
theorem AcJ {m : Option Bool} (h : ∃ b,m = some b) : Ok m (fun b => b = true ↔ m = some true) := by
 obtain ⟨b,h⟩ := h
 exact ⟨b,h,by rw [h]; simp⟩
theorem Acp {s : Aq} (hs : En s) : Ok (Oa s) (fun b => b = true ↔ CheckP s) := by
 have h1 := hs.cpus
 have h2 := hs.mems
 have h3 := hs.devices
 unfold Oa Bm CheckP
 refine Ok.ite (fun c => ?_) fun c => ?_
 ·have c := beq_iff_eq.mp c
  have : (s.pidsMax = 4611686018427387904 ∨ (0 ≤ s.pidsMax ∧ s.pidsMax ≤ 1099511627776)) ↔ True := by simp [c]
  rw [this,true_and]
  exact Ea (Ho _ _ _) fun _ => Ea (AbJ s) fun _ => Ea (Ho _ _ _) fun _ => Ea (Ho _ _ _) fun _ => Ea (Nr _ _ (by omega)) fun _ =>
   Ea (Nr _ _ (by omega)) fun _ => Ea (Ho _ _ _) fun _ => Ea (AcJ (Zk _)) fun _ => Xe (AcJ (Xw _ (by omega)))
 ·have c : ¬ s.pidsMax = 4611686018427387904 := by simpa using c
  have : (s.pidsMax = 4611686018427387904 ∨ (0 ≤ s.pidsMax ∧ s.pidsMax ≤ 1099511627776)) ↔ (0 ≤ s.pidsMax ∧ s.pidsMax ≤ 1099511627776) := by simp [c]
  rw [this]
  exact Ea (Ho _ _ _) fun _ => Ea (Ho _ _ _) fun _ => Ea (AbJ s) fun _ => Ea (Ho _ _ _) fun _ => Ea (Ho _ _ _) fun _ => Ea (Nr _ _ (by omega)) fun _ =>
   Ea (Nr _ _ (by omega)) fun _ => Ea (Ho _ _ _) fun _ => Ea (AcJ (Zk _)) fun _ => Xe (AcJ (Xw _ (by omega)))
def dfS : Aq := { pidsMax := 4611686018427387904,weight := 100,quota := 4611686018427387904,period := 100000,burst := 0,clampMin := 0,clampMax := 10000,cpus := [],mems := [],partition := 0,memory := { min := 0,low := 0,high := 4611686018427387904,max := 4611686018427387904,swapMax := 4611686018427387904,together := false },devices := [] }
def cfg (l : List Ac) (g : Int) : Aq := (l.find? (fun x => x.group == g)).elim dfS (·.settings)
theorem Aej : CheckP dfS := by
 have e1 : Fj dfS.memory = some true := by kernel_rfl
 have e2 : Ei dfS.devices = some true := by kernel_rfl
 refine ⟨.inl rfl,⟨by simp [dfS],by simp [dfS]⟩,?_,by simp [dfS],by simp [dfS],⟨List.Pairwise.nil,fun x hx => by simp [dfS] at hx⟩,⟨List.Pairwise.nil,fun x hx => by simp [dfS] at hx⟩,by simp [dfS],e1,e2⟩
 unfold BandP
 simp [dfS]
theorem AbY : En dfS := ⟨by simp [dfS],by simp [dfS],by simp [dfS]⟩
theorem AfZ {s : Aq} (h : En s) : Ug s = some s := by
 have h1 := h.cpus
 have h2 := h.mems
 have h3 := h.devices
 unfold Ug
 rw [if_pos (by omega),if_pos (by omega),if_pos (by omega)]
theorem AdU {s : Aq} (h : En s) : Pl s = some s := by
 have h1 := h.cpus
 have h2 := h.mems
 have h3 := h.devices
 unfold Pl Eo
 rw [Oi (by omega),Option.bind_some,Oi (by omega),Option.bind_some,if_pos (by omega),Option.bind_some]
theorem AgI {l : List Ac} (hl : l.length ≤ 1000000) (h : ∀ x ∈ l,En x.settings) (g : Int) : Og l g = some (cfg l g) := by
 unfold Og
 rw [if_pos (by omega)]
 apply Ok.eq
 refine Ok.range (fun pre _ => ∀ x ∈ pre,(x.group == g) = false) (by simp) ?_ ?_
 ·intro pre x post s n he hp hn
  unfold Vq
  refine Ok.ite (fun c => ?_) fun c => hn () ?_
  ·rw [AfZ (h x (by rw [he]; simp)),Option.bind_some]
   refine Ok.ret ?_
   have hf : l.find? (fun x => x.group == g) = some x := by
    rw [he,List.find?_append,List.find?_eq_none.mpr (fun y hy => by rw [hp y hy]; simp),Option.none_or,List.find?_cons,c]
   unfold cfg
   rw [hf]
   rfl
  ·intro y hy
   rcases List.mem_append.mp hy with h | h
   ·exact hp y h
   ·simp at h; subst h; exact c
 ·intro s hp
  refine Ok.of_eq (b := dfS) rfl ?_
  have hf : l.find? (fun x => x.group == g) = none := List.find?_eq_none.mpr (fun y hy => by rw [hp y hy]; simp)
  unfold cfg
  rw [hf]
  rfl
theorem Ur {l : List Ac} (hl : l.length ≤ 1000000) (h : ∀ x ∈ l,En x.settings) (g : Int) : Ll l g = some (cfg l g) := by
 unfold Ll Vl Ew
 rw [if_pos (by omega),Ms (p := fun x : Ac => x.group == g) (fun k x n => by
  unfold Gn Sm
  rw [Option.bind_some]) rfl,Option.bind_some,Option.bind_some]
 rcases Qj (fun x : Ac => x.group == g) l default with ⟨i,h1,h2,h3⟩ | ⟨h1,h2⟩
 ·rw [h2,Option.elim_some,if_neg (by simp),if_pos (by omega)]
  simp only [Int.toNat_natCast]
  rw [AdU (h _ (Vg h1)),Option.bind_some]
  unfold cfg
  rw [h3]
  rfl
 ·rw [h1,Option.elim_none,if_pos (by simp)]
  unfold cfg
  rw [h2]
  rfl
end Go.Dm

/- Plain theory of processor sets, part 2: what is within, in both, in one alone; settings that fit. -/
namespace Go.Dm
set_option linter.unusedVariables false
set_option linter.unusedSimpArgs false
theorem Rk {L : List Int} (p : Int → Bool) (h : Asc L) : Asc (L.filter p) := h.sublist List.filter_sublist
theorem Aas (L : List Int) (x : Int) (hl : L.length ≤ 9223372036854775807) : Sy L x = some (L.contains x) := by
 unfold Sy
 rw [AbF L x hl,Option.bind_some]
theorem Afc {A B : List Int} (ha : A.length ≤ 1000000) (hb : B.length ≤ 9223372036854775807) : Pt A B = some (A.all (fun x => B.contains x)) := by
 unfold Pt Ex Fp
 rw [if_pos (by omega),Ms (p := fun x : Int => !B.contains x) (fun k x n => by
  unfold He Sl
  rw [Aas _ _ hb,Option.bind_some,Option.bind_some]) rfl,Option.bind_some,Option.bind_some]
 rcases Qj (fun x : Int => !B.contains x) A 0 with ⟨i,h1,h2,h3⟩ | ⟨h1,h2⟩
 ·rw [h2,Option.elim_some]
  congr 1
  have hx := List.find?_some h3
  have : A.all (fun x => B.contains x) = false := by
   rw [Bool.eq_false_iff]
   intro hall
   rw [List.all_eq_true] at hall
   have := hall _ (List.mem_of_find?_eq_some h3)
   rw [this] at hx
   simp at hx
  rw [this]
  simp
 ·rw [h1,Option.elim_none]
  congr 1
  have : A.all (fun x => B.contains x) = true := by
   rw [List.all_eq_true]
   intro x hx
   rw [List.find?_eq_none] at h2
   have := h2 x hx
   simpa using this
  rw [this]
  rfl
theorem AeR {L : List Int} (hl : L.length ≤ 1000) : Ok (Mt L) (fun r => Asc r ∧ (∀ x,x ∈ r ↔ x ∈ L) ∧ r.length ≤ L.length) := by
 unfold Mt
 obtain ⟨M,m1,m2,r,r1,r2,r3,r4,r5⟩ := sortU_ok hl
 rw [Oi (by omega),Option.bind_some,m1,Option.bind_some,if_pos m2.symm,r1,Option.bind_some,if_pos r2.symm,if_pos (by omega)]
 refine Ok.ret ⟨r4,r5,?_⟩
 rw [List.length_take]
 omega
theorem Aaj {L : List Int} (hl : L.length ≤ 1000) (h : Asc L) : Mt L = some L := by
 obtain ⟨r,h1,h2,h3,_⟩ := AeR hl
 rw [h1,AcH h2 h h3]
theorem AbK {B : List Int} (hb : B.length ≤ 9223372036854775807) (x : Int) : Fm x B = some (B.contains x) := by
 unfold Fm Ui
 rw [Aas _ _ hb,Option.bind_some,Option.bind_some,Bool.not_not]
theorem AbM {B : List Int} (hb : B.length ≤ 9223372036854775807) (x : Int) : Dz x B = some (!B.contains x) := by
 unfold Dz Oq
 rw [Aas _ _ hb,Option.bind_some,Option.bind_some]
theorem Aed {B : List Int} (hb : B.length ≤ 9223372036854775807) (L : List Int) (h2 : L.length ≤ 1000000) :
  Ok (Cf L B) (fun r => r.2.1.length = L.length ∧ r.1 ≤ L.length ∧ r.2.1.take r.1 = L.filter (fun x => !B.contains x) ∧ r.2.2 = B) := by
 unfold Cf Dg
 rw [if_pos (by omega),Ms (p := fun x => B.contains x) (fun k x n => by
  unfold Ee
  rw [AbK hb,Option.bind_some]) rfl]
 refine Ok.step rfl ?_
 rcases Qj (fun x => B.contains x) L 0 with ⟨i,h1,h2',h3⟩ | ⟨h1,h2'⟩
 ·rw [h2',Option.elim_some]
  refine Ok.ite (fun c => by have := beq_iff_eq.mp c; omega) fun _ => ?_
  have e1 : w64 ((i : Int) + 1) = ((i + 1 : Nat) : Int) := by
   rw [As (by omega) (by omega)]
   omega
  rw [e1]
  have hh := List.findIdx?_eq_some_iff_getElem.mp h2'
  obtain ⟨g1,g2,g3⟩ := hh
  refine Adx (p := fun x => B.contains x) (d := 0) h2 h1 ?_ ?_ ?_ ?_
  ·intro x hx
   obtain ⟨j,hj,rfl⟩ := List.getElem_of_mem hx
   rw [List.length_take] at hj
   rw [List.getElem_take]
   have := g3 j (by omega)
   simpa using this
  ·rw [Gy h1]
   exact g2
  ·intro M i j n hM hij hj hn
   unfold Da Cd
   simp only
   have ei : Int.toNat (i : Int) = i := by omega
   have ej : Int.toNat (j : Int) = j := by omega
   rw [ei,ej]
   refine Ok.ite (fun _ => ?_) fun c => by
    have := of_decide_eq_false c
    omega
   refine Ok.guard (by omega) (Ok.guard (by omega) ?_)
   rw [AbK hb,Option.bind_some]
   have ej1 : w64 ((j : Int) + 1) = ((j + 1 : Nat) : Int) := by
    rw [As (by omega) (by omega)]
    omega
   have ei1 : w64 ((i : Int) + 1) = ((i + 1 : Nat) : Int) := by
    rw [As (by omega) (by omega)]
    omega
   rw [ej1,ei1]
   refine Ok.ite (fun c => ?_) fun c => ?_
   ·refine Ok.guard (by omega) (Ok.guard (by omega) (hn _ ?_))
    rw [if_neg]
    simpa using c
   ·refine hn _ ?_
    rw [if_pos]
    rw [Bool.not_eq_false'] at c
    exact c
  ·intro M i n hM hi ht
   unfold Da
   simp only
   have ei : Int.toNat (i : Int) = i := by omega
   rw [ei,Hs]
   refine Ok.ite (fun c => by have := of_decide_eq_true c; omega) fun _ => ?_
   have hfl : (Iv M i (M.length - i) (0 : Int)).length = M.length := Xv (by omega)
   refine Ok.guard (by omega) (Ok.guard (by omega) (Ok.guard (by rw [hfl]; omega) (Ok.ret ⟨by simp only; rw [hfl,hM],hi,?_,rfl⟩)))
   simp only
   rw [Xd (by omega),ht]
 ·rw [h1,Option.elim_none]
  refine Ok.ite (fun _ => Ok.ret ⟨rfl,Nat.le_refl _,?_,rfl⟩) fun c => by simp at c
  simp only [List.take_length]
  symm
  rw [List.filter_eq_self]
  intro x hx
  rw [List.find?_eq_none] at h2'
  have := h2' x hx
  simpa using this
theorem AdX {B : List Int} (hb : B.length ≤ 9223372036854775807) (L : List Int) (h2 : L.length ≤ 1000000) :
  Ok (Ca L B) (fun r => r.2.1.length = L.length ∧ r.1 ≤ L.length ∧ r.2.1.take r.1 = L.filter (fun x => B.contains x) ∧ r.2.2 = B) := by
 have hff : L.filter (fun x => !(!B.contains x)) = L.filter (fun x => B.contains x) := by
  congr 1
  funext x
  simp
 unfold Ca Cv
 rw [if_pos (by omega),Ms (p := fun x => !B.contains x) (fun k x n => by
  unfold Dv
  rw [AbM hb,Option.bind_some]) rfl]
 refine Ok.step rfl ?_
 rcases Qj (fun x => !B.contains x) L 0 with ⟨i,h1,h2',h3⟩ | ⟨h1,h2'⟩
 ·rw [h2',Option.elim_some]
  refine Ok.ite (fun c => by have := beq_iff_eq.mp c; omega) fun _ => ?_
  have e1 : w64 ((i : Int) + 1) = ((i + 1 : Nat) : Int) := by
   rw [As (by omega) (by omega)]
   omega
  rw [e1]
  have hh := List.findIdx?_eq_some_iff_getElem.mp h2'
  obtain ⟨g1,g2,g3⟩ := hh
  refine Adx (p := fun x => !B.contains x) (d := 0) h2 h1 ?_ ?_ ?_ ?_
  ·intro x hx
   obtain ⟨j,hj,rfl⟩ := List.getElem_of_mem hx
   rw [List.length_take] at hj
   rw [List.getElem_take]
   have := g3 j (by omega)
   simpa using this
  ·rw [Gy h1]
   exact g2
  ·intro M i j n hM hij hj hn
   unfold Cn Bz
   simp only
   have ei : Int.toNat (i : Int) = i := by omega
   have ej : Int.toNat (j : Int) = j := by omega
   rw [ei,ej]
   refine Ok.ite (fun _ => ?_) fun c => by
    have := of_decide_eq_false c
    omega
   refine Ok.guard (by omega) (Ok.guard (by omega) ?_)
   rw [AbM hb,Option.bind_some]
   have ej1 : w64 ((j : Int) + 1) = ((j + 1 : Nat) : Int) := by
    rw [As (by omega) (by omega)]
    omega
   have ei1 : w64 ((i : Int) + 1) = ((i + 1 : Nat) : Int) := by
    rw [As (by omega) (by omega)]
    omega
   rw [ej1,ei1]
   refine Ok.ite (fun c => ?_) fun c => ?_
   ·refine Ok.guard (by omega) (Ok.guard (by omega) (hn _ ?_))
    rw [if_neg]
    simpa using c
   ·refine hn _ ?_
    rw [if_pos]
    rw [Bool.not_eq_false'] at c
    exact c
  ·intro M i n hM hi ht
   unfold Cn
   simp only
   have ei : Int.toNat (i : Int) = i := by omega
   rw [ei,Hs]
   refine Ok.ite (fun c => by have := of_decide_eq_true c; omega) fun _ => ?_
   have hfl : (Iv M i (M.length - i) (0 : Int)).length = M.length := Xv (by omega)
   refine Ok.guard (by omega) (Ok.guard (by omega) (Ok.guard (by rw [hfl]; omega) (Ok.ret ⟨by simp only; rw [hfl,hM],hi,?_,rfl⟩)))
   simp only
   rw [Xd (by omega),ht]
   exact hff
 ·rw [h1,Option.elim_none]
  refine Ok.ite (fun _ => Ok.ret ⟨rfl,Nat.le_refl _,?_,rfl⟩) fun c => by simp at c
  simp only [List.take_length]
  symm
  rw [List.filter_eq_self]
  intro x hx
  rw [List.find?_eq_none] at h2'
  have := h2' x hx
  simpa using this
def Ke (A B : List Int) : List Int := A.filter (fun x => !B.contains x)
def Ph (A B : List Int) : List Int := A.filter (fun x => B.contains x)
def Mi (A B : List Int) : List Int := if (Ph A B).length > 0 then Ph A B else B
theorem AfW {A B : List Int} (h : Asc A) (ha : A.length ≤ 1000) (hb : B.length ≤ 9223372036854775807) : Rp A B = some (Ke A B) := by
 unfold Rp Jl
 obtain ⟨r,d1,d2,d3,d4,d5⟩ := Aed hb A (by omega)
 rw [Aaj ha h,Option.bind_some,d1,Option.bind_some,if_pos d2.symm,if_pos (by omega),Option.bind_some,d4]
 rfl
theorem Adc {A B : List Int} (h : Asc A) (ha : A.length ≤ 1000) (hb : B.length ≤ 9223372036854775807) : Nw A B = some (Ph A B) := by
 unfold Nw Hw
 obtain ⟨r,d1,d2,d3,d4,d5⟩ := AdX hb A (by omega)
 rw [Aaj ha h,Option.bind_some,d1,Option.bind_some,if_pos d2.symm,if_pos (by omega),Option.bind_some,d4]
 rfl
theorem Agi {A B : List Int} (h : Asc A) (ha : A.length ≤ 1000) (hb : B.length ≤ 1000) : Nv A B = some (Mi A B) := by
 unfold Nv Mi
 rw [Adc h ha (by omega),Option.bind_some]
 by_cases c : (Ph A B).length > 0
 ·rw [if_pos c,if_pos (by simpa using c)]
 ·rw [if_neg c,if_neg (by simpa using c),Oi (by omega),Option.bind_some]
structure FitsS (t : Ab) (l : List Ac) : Prop where
 wf : WfT t
 grp : l.map (·.group) = t.nodes.map (·.id)
 chk : ∀ x ∈ l,CheckP x.settings
theorem FitsS.len {t : Ab} {l : List Ac} (f : FitsS t l) : l.length = t.nodes.length := by
 have := congrArg List.length f.grp
 simpa using this
theorem Adk {t : Ab} {l : List Ac} (hm : ∀ x ∈ t.nodes,AcX x) (ht : t.nodes.length ≤ 1000000) (hl : l.length ≤ 1000000) (hs : ∀ x ∈ l,En x.settings) : Ok (Pj t l) (fun b => b = true ↔ FitsS t l) := by
 unfold Pj
 by_cases w : WfT t
 ·rw [Agp w,Option.bind_some,if_neg (by simp)]
  unfold Kk
  refine Ok.ite (fun c => Ok.ret ?_) fun c => ?_
  ·have c : ¬ ((l.length : Nat) : Int) = ((t.nodes.length : Nat) : Int) := by simpa using c
   simp only [Bool.false_eq_true,false_iff]
   intro f
   have := f.len
   omega
  ·have hlen : l.length = t.nodes.length := by
    have c : ((l.length : Nat) : Int) = ((t.nodes.length : Nat) : Int) := by simpa using c
    omega
   refine Ok.guard (by omega) ?_
   refine Ok.range (fun pre _ => (l.take pre.length).map (·.group) = pre.map (·.id) ∧ ∀ x ∈ l.take pre.length,CheckP x.settings) ⟨by simp,by simp⟩ ?_ ?_
   ·intro pre x post s n he hp hn
    unfold Uh Mk
    have hpl : pre.length + 1 ≤ t.nodes.length := by rw [he]; simp
    have htk : l.take (pre.length + 1) = l.take pre.length ++ [l.getD pre.length default] := by
     rw [List.take_add_one,List.getElem?_eq_getElem (by omega),Option.toList_some,Gy (by omega)]
    have hmem : l.getD pre.length default ∈ l := Vg (by omega)
    have hx : t.nodes.getD pre.length default = x := by rw [he]; exact Yu
    refine Ok.guard (by omega) (Ok.ite (fun c => Ok.ret ?_) fun c => Ok.guard (by omega) ?_)
    ·have c : ¬ (l.getD pre.length default).group = x.id := by simpa using c
     simp only [Bool.false_eq_true,false_iff]
     intro f
     apply c
     have := congrArg (fun q => q[pre.length]?) f.grp
     simp only [List.getElem?_map] at this
     rw [List.getElem?_eq_getElem (by omega),List.getElem?_eq_getElem (by omega)] at this
     simp only [Option.map_some,Option.some.injEq] at this
     rw [Gy (by omega),this,← Gy (d := default) (by omega),hx]
    ·have c : (l.getD pre.length default).group = x.id := by simpa using c
     obtain ⟨b,hb,hbi⟩ := Acp (hs _ hmem)
     rw [hb,Option.bind_some]
     refine Ok.ite (fun c2 => Ok.ret ?_) fun c2 => hn () ⟨?_,?_⟩
     ·simp only [Bool.false_eq_true,false_iff]
      intro f
      rw [hbi.mpr (f.chk _ hmem)] at c2
      simp at c2
     ·rw [List.length_append,List.length_singleton,htk,List.map_append,List.map_append,hp.1,List.map_singleton,List.map_singleton,c]
     ·rw [List.length_append,List.length_singleton,htk]
      intro y hy
      rcases List.mem_append.mp hy with h | h
      ·exact hp.2 y h
      ·simp only [List.mem_singleton] at h
       subst h
       exact hbi.mp (by simpa using c2)
   ·intro s hp
    refine Ok.of_eq (b := true) rfl ?_
    have : l.take t.nodes.length = l := List.take_of_length_le (by omega)
    rw [this] at hp
    simp only [true_iff]
    exact ⟨w,hp.1,hp.2⟩
 ·rw [AgK hm w,Option.bind_some,if_pos (by simp)]
  unfold Kk
  rw [if_pos rfl]
  exact Ok.ret (by simp only [Bool.false_eq_true,false_iff]; exact fun f => w f.wf)
structure Usable (t : Ab) (l : List Ac) (on : List Int) (n : Int) : Prop where
 fits : FitsS t l
 pos : 0 < on.length
 set : okSet n on
theorem AeH {t : Ab} {l : List Ac} {on : List Int} {n : Int} (hm : ∀ x ∈ t.nodes,AcX x) (ht : t.nodes.length ≤ 1000000) (hl : l.length ≤ 1000000) (hs : ∀ x ∈ l,En x.settings) (ho : on.length ≤ 9223372036854775807) :
  Ok (Ij t l on n) (fun b => b = true ↔ Usable t l on n) := by
 unfold Ij Kn
 have h := Ea (Adk hm ht hl hs) (R := 0 < on.length ∧ okSet n on) (rest := (if (decide (((on.length : Nat) : Int) > 0)) then (Option.bind (Ka on n) fun r4 => some r4) else some false)) fun _ => by
  refine Ok.ite (fun c => ?_) fun c => Ok.ret ?_
  ·have c : 0 < on.length := by have := of_decide_eq_true c; omega
   refine (Xe (Nr on n ho)).mono fun b hb => ?_
   rw [hb]
   simp [c]
  ·have c := of_decide_eq_false c
   simp only [Bool.false_eq_true,false_iff]
   intro ⟨h,_⟩
   omega
 exact h.mono fun b hb => hb.trans ⟨fun ⟨a,b,c⟩ => ⟨a,b,c⟩,fun u => ⟨u.fits,u.pos,u.set⟩⟩
end Go.Dm

/- Plain theory of processor sets, part 3: how a group's share is divided. -/
namespace Go.Dm
set_option linter.unusedVariables false
set_option linter.unusedSimpArgs false
theorem AfG {S R : Type} {B : Int → S → (S → Option R) → Option R} {D : S → Option R} {r : R} (I : (Int → Bool) → S → Prop)
  (step : ∀ rem s n N,rem n = true → I rem s → (∀ s',I (Az rem n false) s' → N s' = some r) → B n s N = some r) (fin : ∀ s,I (fun _ => false) s → D s = some r) :
  ∀ (m : Nat) (ks : List Int) (rem : Int → Bool) (s : S),ks.Nodup → ks.length < m → (∀ n,rem n = true ↔ n ∈ ks) → I rem s → rangeM B D m rem s = some r := by
 intro m
 induction m with
 | zero => intro ks rem s _ h; omega
 | succ m ih =>
  intro ks rem s hn hl hr hi
  rw [rangeM]
  by_cases h0 : ∀ n,rem n = false
  ·rw [if_pos h0]
   have : rem = fun _ => false := funext h0
   subst this
   exact fin s hi
  ·rw [if_neg h0]
   have key : ∀ n,rem n = true → B n s (rangeM B D m (Az rem n false)) = some r := by
    intro n hrn
    have hnk := (hr n).mp hrn
    refine step rem s n _ hrn hi fun s' hi' => ?_
    refine ih (ks.filter (fun k => k != n)) (Az rem n false) s' (hn.sublist List.filter_sublist) ?_ (fun k => ?_) hi'
    ·have : (ks.filter (fun k => k != n)).length < ks.length := by
      apply List.length_filter_lt_length_iff_exists.mpr
      exact ⟨n,hnk,by simp⟩
     omega
    ·simp only [Az,List.mem_filter,bne_iff_ne,ne_eq]
     split
     ·rename_i e; subst e; simp
     ·rename_i e; rw [hr k]; simp [e]
   have hex : ∃ r,∀ n,rem n = true → B n s (rangeM B D m (Az rem n false)) = some r := ⟨r,key⟩
   rw [dif_pos hex]
   have h1 : ∃ n,rem n = true := by
    by_cases h : ∃ n,rem n = true
    ·exact h
    ·exact absurd (fun n => by
      cases hq : rem n with
      | false => rfl
      | true => exact absurd ⟨n,hq⟩ h) h0
   obtain ⟨n,hn1⟩ := h1
   have := hex.choose_spec n hn1
   rw [key n hn1] at this
   exact this.symm
def Vn (al : Bool) (left : List Int) (s : Aq) : Bool := s.partition == 1 && al && decide (0 < s.cpus.length) && s.cpus.all (fun x => left.contains x) && decide (s.cpus.length < left.length)
def Cl (l : List Ac) (al : Bool) : List Int → List Int → List Int × List Int
 | [],left => (left,[])
 | c :: r,left => if Vn al left (cfg l c) then ((Cl l al r (Ke left (cfg l c).cpus)).1,c :: (Cl l al r (Ke left (cfg l c).cpus)).2) else Cl l al r left
theorem Zh {l : List Ac} {al : Bool} {x : Int} : ∀ (pre : List Int) (left : List Int),
  Cl l al (pre ++ [x]) left = if Vn al (Cl l al pre left).1 (cfg l x) then (Ke (Cl l al pre left).1 (cfg l x).cpus,(Cl l al pre left).2 ++ [x]) else Cl l al pre left
 | [],left => by
  by_cases h : Vn al left (cfg l x) = true <;> simp [Cl,h]
 | c :: r,left => by
  rw [List.cons_append,Cl,Zh r left,Zh r (Ke left (cfg l c).cpus)]
  rw [Cl]
  by_cases h : Vn al left (cfg l c) = true
  ·rw [if_pos h,if_pos h]
   simp only
   split <;> simp
  ·rw [if_neg h,if_neg h]
theorem Ov {l : List Ac} {al : Bool} : ∀ (ks left : List Int),(∀ x ∈ (Cl l al ks left).1,x ∈ left) ∧ (∀ c ∈ (Cl l al ks left).2,c ∈ ks) ∧ (Asc left → Asc (Cl l al ks left).1)
 | [],left => by simp [Cl]
 | c :: r,left => by
  rw [Cl]
  by_cases h : Vn al left (cfg l c) = true
  ·rw [if_pos h]
   obtain ⟨h1,h2,h3⟩ := Ov r (Ke left (cfg l c).cpus) (l := l) (al := al)
   refine ⟨fun x hx => (List.mem_filter.mp (h1 x hx)).1,fun d hd => ?_,fun ha => h3 (Rk _ ha)⟩
   rcases List.mem_cons.mp hd with rfl | hd
   ·simp
   ·simp [h2 d hd]
  ·rw [if_neg h]
   obtain ⟨h1,h2,h3⟩ := Ov r left (l := l) (al := al)
   exact ⟨h1,fun d hd => by simp [h2 d hd],h3⟩
def AcW (t : Ab) (l : List Ac) (g : Int) (s : List Int) (al : Bool) : List Int := (Cl l al (Ay t g) s).1
def Mn (t : Ab) (l : List Ac) (g : Int) (s : List Int) (al : Bool) : List Int := (Cl l al (Ay t g) s).2
def stC (t : Ab) (l : List Ac) (on : List Int) : List Int → List Int × Bool
 | [] => ([],false)
 | [_] => (on,false)
 | c :: p :: r =>
  if (Mn t l p (stC t l on (p :: r)).1 (p == 1 || (stC t l on (p :: r)).2)).contains c then ((cfg l c).cpus,true)
  else (Mi (cfg l c).cpus (AcW t l p (stC t l on (p :: r)).1 (p == 1 || (stC t l on (p :: r)).2)),false)
def Dh (t : Ab) (l : List Ac) (on : List Int) (g : Int) : List Int := (stC t l on (upT t g)).1
def Db (t : Ab) (l : List Ac) (on : List Int) (g : Int) : Bool := (stC t l on (upT t g)).2
def Fc (t : Ab) (l : List Ac) (on : List Int) (g : Int) : Bool := g == 1 || Db t l on g
def Hi (t : Ab) (l : List Ac) (on : List Int) (g : Int) : List Int := AcW t l g (Dh t l on g) (Fc t l on g)
def Ig (t : Ab) (l : List Ac) (on : List Int) (g : Int) : List Int := Mn t l g (Dh t l on g) (Fc t l on g)
def Bn (t : Ab) (g x : Int) : Bool := (upT t x).contains g
variable {t : Ab} {l : List Ac} {on : List Int}
theorem below_iff {g x : Int} : Bn t g x = true ↔ g ∈ upT t x := by simp [Bn]
theorem Rz (w : WfT t) {g c : Int} (hc : c ∈ Ay t g) : upT t c = c :: upT t g ∧ Di t c = true ∧ g < c := by
 obtain ⟨x,hx,rfl,rfl⟩ := kids_iff.mp hc
 exact ⟨w.up hx,hasN_iff.mpr ⟨x,hx,rfl⟩,w.par_lt hx⟩
theorem Afj (w : WfT t) : upT t 1 = [1] := by
 obtain ⟨x,r,e,hr⟩ := w.root
 have hx : x ∈ t.nodes := by rw [e]; simp
 have := w.up hx
 rw [hr.id,hr.parent,w.upZero] at this
 exact this
theorem AaY (w : WfT t) : Dh t l on 1 = on ∧ Db t l on 1 = false := by
 unfold Dh Db
 rw [Afj w]
 exact ⟨rfl,rfl⟩
theorem Vj {g : Int} (w : WfT t) (h : Di t g = true) : ∃ r,upT t g = g :: r := ⟨_,up_cons w h⟩
theorem Oh (w : WfT t) {g c : Int} (hg : Di t g = true) (hc : c ∈ Ay t g) :
  Db t l on c = (Ig t l on g).contains c ∧ Dh t l on c = (if (Ig t l on g).contains c then (cfg l c).cpus else Mi (cfg l c).cpus (Hi t l on g)) := by
 obtain ⟨e1,e2,e3⟩ := Rz w hc
 obtain ⟨r,er⟩ := Vj w hg
 unfold Db Dh
 rw [e1,er,stC]
 unfold Ig Hi Dh Fc Db
 rw [er]
 by_cases h : (Mn t l g (stC t l on (g :: r)).1 (g == 1 || (stC t l on (g :: r)).2)).contains c = true
 ·rw [if_pos h,if_pos h,h]
  exact ⟨rfl,rfl⟩
 ·rw [if_neg h,if_neg h]
  simp only [Bool.not_eq_true] at h
  rw [h]
  exact ⟨rfl,rfl⟩
def setsA (t : Ab) (l : List Ac) (on : List Int) (g : Int) (m : IMap (List Int)) : IMap (List Int) := ⟨fun x => Bn t g x || m.has x,fun x => if Bn t g x then Hi t l on x else m.get x⟩
def partA (t : Ab) (l : List Ac) (on : List Int) (g : Int) (m : IMap Bool) : IMap Bool := ⟨fun x => (Bn t g x && x != g && Db t l on x) || m.has x,fun x => if Bn t g x && x != g && Db t l on x then true else m.get x⟩
def Gz (m : IMap Bool) (ps : List Int) : IMap Bool := ⟨fun x => ps.contains x || m.has x,fun x => if ps.contains x then true else m.get x⟩
def Nz (l : List Ac) (ps : List Int) : IMap (List Int) := ⟨fun x => ps.contains x,fun x => if ps.contains x then (cfg l x).cpus else []⟩
def Nq (l : List Ac) (ps ms : List Int) (left : List Int) : IMap (List Int) := ⟨fun x => ms.contains x || ps.contains x,fun x => if ms.contains x then Mi (cfg l x).cpus left else if ps.contains x then (cfg l x).cpus else []⟩
theorem IMap.ext' {α : Type} {m n : IMap α} (h1 : ∀ x,m.has x = n.has x) (h2 : ∀ x,m.get x = n.get x) : m = n := by
 cases m
 cases n
 congr
 ·funext x; exact h1 x
 ·funext x; exact h2 x
theorem AgB (m : IMap Bool) (ps : List Int) (x : Int) : (Gz m ps).set x true = Gz m (ps ++ [x]) := by
 apply IMap.ext'
 ·intro y
  simp only [IMap.set,Gz,Az,List.contains_eq_mem,List.mem_append,List.mem_singleton]
  by_cases h : y = x
  ·simp [h]
  ·simp [h]
 ·intro y
  simp only [IMap.set,Gz,Az,List.contains_eq_mem,List.mem_append,List.mem_singleton,decide_eq_true_eq]
  by_cases h : y = x
  ·simp [h]
  ·simp [h]
theorem Ahq (ps : List Int) (x : Int) : (Nz l ps).set x (cfg l x).cpus = Nz l (ps ++ [x]) := by
 apply IMap.ext'
 ·intro y
  simp only [IMap.set,Nz,Az,List.contains_eq_mem,List.mem_append,List.mem_singleton]
  by_cases h : y = x
  ·simp [h]
  ·simp [h]
 ·intro y
  simp only [IMap.set,Nz,Az,List.contains_eq_mem,List.mem_append,List.mem_singleton,decide_eq_true_eq]
  by_cases h : y = x
  ·simp [h]
  ·simp [h]
theorem Ahk (ps ms left : List Int) (x : Int) : (Nq l ps ms left).set x (Mi (cfg l x).cpus left) = Nq l ps (ms ++ [x]) left := by
 apply IMap.ext'
 ·intro y
  simp only [IMap.set,Nq,Az,List.contains_eq_mem,List.mem_append,List.mem_singleton]
  by_cases h : y = x
  ·simp [h]
  ·simp [h]
 ·intro y
  simp only [IMap.set,Nq,Az,List.contains_eq_mem,List.mem_append,List.mem_singleton,decide_eq_true_eq]
  by_cases h : y = x
  ·simp [h]
  ·simp [h]
theorem AhN (ps left : List Int) : Nz l ps = Nq l ps [] left := by
 apply IMap.ext'
 ·intro y; simp [Nz,Nq]
 ·intro y; simp [Nz,Nq]
structure UseS (t : Ab) (l : List Ac) (on : List Int) : Prop where
 fits : FitsS t l
 pos : 0 < on.length
 set : okSet 16 on
theorem CheckP.small {s : Aq} (h : CheckP s) : s.cpus.length ≤ 16 ∧ s.mems.length ≤ 8 ∧ Asc s.cpus ∧ Asc s.mems := by
 obtain ⟨_,_,_,_,_,h1,h2,_,_,_⟩ := h
 have a1 := h1.len (by omega)
 have a2 := h2.len (by omega)
 exact ⟨by omega,by omega,h1.1,h2.1⟩
theorem cfg_mem {P : Aq → Prop} (h : ∀ x ∈ l,P x.settings) (hd : P dfS) (g : Int) : P (cfg l g) := by
 unfold cfg
 cases hf : l.find? (fun x => x.group == g) with
 | none => exact hd
 | some x => exact h x (List.mem_of_find?_eq_some hf)
theorem FitsS.cfg (f : FitsS t l) (g : Int) : CheckP (cfg l g) := cfg_mem f.chk Aej g
theorem Aab (on16 : okSet 16 on) {L : List Int} (h : ∀ x ∈ L,x ∈ on) (ha : Asc L) : L.length ≤ 16 := by
 have := (show okSet 16 L from ⟨ha,fun x hx => on16.2 x (h x hx)⟩).len (by omega)
 omega
end Go.Dm

/- Plain theory of processor sets, part 4: the plan of the program. -/
namespace Go.Dm
set_option linter.unusedVariables false
set_option linter.unusedSimpArgs false
variable {t : Ab} {l : List Ac} {on : List Int}
theorem cond_iff {al : Bool} {left : List Int} {s : Aq} : Vn al left s = true ↔ s.partition = 1 ∧ al = true ∧ 0 < s.cpus.length ∧ (∀ y ∈ s.cpus,y ∈ left) ∧ s.cpus.length < left.length := by
 simp [Vn,and_assoc]
theorem Ti {al : Bool} (hc : ∀ c,Asc (cfg l c).cpus) : ∀ (ks left : List Int),Asc left →
  (∀ c ∈ (Cl l al ks left).2,al = true ∧ (cfg l c).partition = 1 ∧ 0 < (cfg l c).cpus.length ∧ ∀ y ∈ (cfg l c).cpus,y ∈ left ∧ y ∉ (Cl l al ks left).1) ∧
  (∀ y ∈ left,y ∈ (Cl l al ks left).1 ∨ ∃ c ∈ (Cl l al ks left).2,y ∈ (cfg l c).cpus) ∧
  (ks.Nodup → ∀ c ∈ (Cl l al ks left).2,∀ d ∈ (Cl l al ks left).2,∀ y,y ∈ (cfg l c).cpus → y ∈ (cfg l d).cpus → c = d) ∧
  (0 < left.length → 0 < (Cl l al ks left).1.length)
 | [],left,ha => by simp [Cl]
 | c :: r,left,ha => by
  rw [Cl]
  by_cases h : Vn al left (cfg l c) = true
  ·rw [if_pos h]
   obtain ⟨c1,c2,c3,c4,c5⟩ := cond_iff.mp h
   have hm : ∀ y,y ∈ Ke left (cfg l c).cpus ↔ y ∈ left ∧ y ∉ (cfg l c).cpus := by
    intro y
    simp [Ke]
   obtain ⟨h1,h2,h3,h4⟩ := Ti (al := al) hc r (Ke left (cfg l c).cpus) (Rk _ ha)
   obtain ⟨s1,s2,s3⟩ := Ov (l := l) (al := al) r (Ke left (cfg l c).cpus)
   refine ⟨fun d hd => ?_,fun y hy => ?_,fun hn d hd e he y hyd hye => ?_,fun hpos => h4 ?_⟩
   ·simp only
    rcases List.mem_cons.mp hd with rfl | hd
    ·exact ⟨c2,c1,c3,fun y hy => ⟨c4 y hy,fun hy2 => ((hm y).mp (s1 y hy2)).2 hy⟩⟩
    ·obtain ⟨g1,g2,g3,g4⟩ := h1 d hd
     exact ⟨g1,g2,g3,fun y hy => ⟨((hm y).mp (g4 y hy).1).1,(g4 y hy).2⟩⟩
   ·simp only
    by_cases hyc : y ∈ (cfg l c).cpus
    ·exact .inr ⟨c,by simp,hyc⟩
    ·rcases h2 y ((hm y).mpr ⟨hy,hyc⟩) with g | ⟨d,hd,g⟩
     ·exact .inl g
     ·exact .inr ⟨d,by simp [hd],g⟩
   ·simp only at hd he
    rw [List.nodup_cons] at hn
    rcases List.mem_cons.mp hd with rfl | hd <;> rcases List.mem_cons.mp he with rfl | he
    ·rfl
    ·exact absurd hyd ((hm y).mp ((h1 e he).2.2.2 y hye).1).2
    ·exact absurd hye ((hm y).mp ((h1 d hd).2.2.2 y hyd).1).2
    ·exact h3 hn.2 d hd e he y hyd hye
   ·apply Nat.pos_of_ne_zero
    intro h0
    have he := List.eq_nil_of_length_eq_zero h0
    have : left.length ≤ (cfg l c).cpus.length := Tc (Aam ha) fun y hy => by
     by_cases hyc : y ∈ (cfg l c).cpus
     ·exact hyc
     ·have := (hm y).mpr ⟨hy,hyc⟩
      rw [he] at this
      simp at this
    omega
  ·rw [if_neg h]
   obtain ⟨h1,h2,h3,h4⟩ := Ti (al := al) hc r left ha
   exact ⟨h1,h2,fun hn => h3 (List.nodup_cons.mp hn).2,h4⟩
theorem UseS.asc (u : UseS t l on) (c : Int) : Asc (cfg l c).cpus := (u.fits.cfg c).small.2.2.1
theorem UseS.w (u : UseS t l on) : WfT t := u.fits.wf
theorem Aan {A B : List Int} : ∀ y ∈ Mi A B,y ∈ B := by
 intro y hy
 unfold Mi at hy
 split at hy
 ·simp only [Ph,List.mem_filter,List.contains_eq_mem,decide_eq_true_eq] at hy
  exact hy.2
 ·exact hy
theorem Afu {A B : List Int} (ha : Asc A) (hb : Asc B) : Asc (Mi A B) := by
 unfold Mi
 split
 ·exact Rk _ ha
 ·exact hb
theorem Afy {A B : List Int} (hb : 0 < B.length) : 0 < (Mi A B).length := by
 unfold Mi
 split
 ·assumption
 ·exact hb
theorem share_ok (u : UseS t l on) : ∀ x ∈ t.nodes,Asc (Dh t l on x.id) ∧ (∀ y ∈ Dh t l on x.id,y ∈ on) ∧ 0 < (Dh t l on x.id).length := by
 refine u.w.induct fun x hx ih => ?_
 rcases u.w.p.par x hx with ⟨h1,_⟩ | ⟨_,_,⟨y,hy,hyp⟩,_⟩
 ·rw [h1,(AaY u.w).1]
  exact ⟨u.set.1,fun y hy => hy,u.pos⟩
 ·obtain ⟨i1,i2,i3⟩ := ih y hy hyp
  rw [hyp] at i1 i2 i3
  have hg : Di t x.parent = true := hasN_iff.mpr ⟨y,hy,hyp⟩
  have hk : x.id ∈ Ay t x.parent := kids_iff.mpr ⟨x,hx,rfl,rfl⟩
  obtain ⟨e1,e2⟩ := Oh (l := l) (on := on) u.w hg hk
  rw [e2]
  obtain ⟨p1,p2,p3,p4⟩ := Ti (al := Fc t l on x.parent) u.asc (Ay t x.parent) _ i1
  obtain ⟨s1,s2,s3⟩ := Ov (l := l) (al := Fc t l on x.parent) (Ay t x.parent) (Dh t l on x.parent)
  split
  ·rename_i hc
   have hc : x.id ∈ Ig t l on x.parent := by simpa using hc
   obtain ⟨_,_,q3,q4⟩ := p1 _ hc
   exact ⟨u.asc _,fun y hy => i2 y (q4 y hy).1,q3⟩
  ·exact ⟨Afu (u.asc _) (s3 i1),fun y hy => i2 y (s1 y (Aan y hy)),Afy (p4 i3)⟩
theorem Wl (u : UseS t l on) {g : Int} (h : Di t g = true) : Asc (Dh t l on g) ∧ (∀ y ∈ Dh t l on g,y ∈ on) ∧ 0 < (Dh t l on g).length ∧ (Dh t l on g).length ≤ 16 := by
 obtain ⟨x,hx,rfl⟩ := hasN_iff.mp h
 obtain ⟨h1,h2,h3⟩ := share_ok u x hx
 exact ⟨h1,h2,h3,Aab u.set h2 h1⟩
theorem Vc (u : UseS t l on) {g : Int} (h : Di t g = true) : Asc (Hi t l on g) ∧ (∀ y ∈ Hi t l on g,y ∈ Dh t l on g) ∧ 0 < (Hi t l on g).length ∧ (Hi t l on g).length ≤ 16 := by
 obtain ⟨h1,h2,h3,_⟩ := Wl u h
 obtain ⟨p1,p2,p3,p4⟩ := Ti (al := Fc t l on g) u.asc (Ay t g) _ h1
 obtain ⟨s1,s2,s3⟩ := Ov (l := l) (al := Fc t l on g) (Ay t g) (Dh t l on g)
 exact ⟨s3 h1,s1,p4 h3,Aab u.set (fun y hy => h2 y (s1 y hy)) (s3 h1)⟩
theorem Agj (u : UseS t l on) (hs : ∀ x ∈ l,En x.settings) {g : Int} {al : Bool} {p : plan} (ht : p.tree = t) (hl : p.configs = l) (hg : Di t g = true) {s : List Int} (ha : Asc s) (h16 : s.length ≤ 16)
  (hal : p.partitions.get g = al) {rec : plan → Int → List Int → Option plan} {Q : plan → Prop}
  (fin : Ok (Iu rec p g (Nz l (Mn t l g s al),(Ay t g).filter (fun c => !(Mn t l g s al).contains c),Gz p.partitions (Mn t l g s al),AcW t l g s al)) Q) :
  Ok (Je rec p g s) Q := by
 have hlen := u.fits.len
 have hn := u.w.len2
 unfold Je
 rw [ht,AbR t g (by omega),Option.bind_some]
 have hk := Yj t g
 refine Ok.guard (by omega) ?_
 refine Ok.range (fun pre s1 => s1 = (Nz l (Cl l al pre s).2,pre.filter (fun c => !(Cl l al pre s).2.contains c),Gz p.partitions (Cl l al pre s).2,(Cl l al pre s).1)) ?_ ?_ ?_
 ·have e0 : Gz p.partitions [] = p.partitions := by apply IMap.ext' <;> intro y <;> simp [Gz]
  simp only [Cl,List.filter_nil,e0]
  rfl
 ·intro pre x post s1 n he hI hn2
  subst hI
  have hxk : x ∈ Ay t g := by rw [he]; simp
  obtain ⟨e1,e2,e3⟩ := Rz u.w hxk
  have hnd : (pre ++ x :: post).Nodup := by rw [← he]; exact Xg u.w g
  have hxpre : x ∉ pre := fun h => by
   rw [List.nodup_append] at hnd
   exact hnd.2.2 x h x (by simp) rfl
  obtain ⟨s1',s2',s3'⟩ := Ov (l := l) (al := al) pre s
  have hgpre : g ∉ (Cl l al pre s).2 := fun h => by
   have hgk : g ∈ Ay t g := by rw [he]; simp [s2' g h]
   have := (Rz u.w hgk).2.2
   omega
  have hlen16 : (Cl l al pre s).1.length ≤ 16 := by
   have := Tc (Aam (s3' ha)) s1'
   omega
  unfold Nn Ep It
  rw [hl,Ur (by omega) hs,Option.bind_some]
  have hget : (Gz p.partitions (Cl l al pre s).2).get g = al := by
   simp only [Gz,List.contains_eq_mem,hgpre,decide_false,Bool.false_eq_true,if_false]
   exact hal
  have hcs := (u.fits.cfg x).small
  have hW : Pt (cfg l x).cpus (Cl l al pre s).1 = some ((cfg l x).cpus.all (fun y => (Cl l al pre s).1.contains y)) := Afc (by omega) (by omega)
  have hyes : Vn al (Cl l al pre s).1 (cfg l x) = true → Ok (Option.bind (Rp (Cl l al pre s).1 (cfg l x).cpus) fun r88 => n ((Nz l (Cl l al pre s).2).set x (cfg l x).cpus,pre.filter (fun c => !(Cl l al pre s).2.contains c),(Gz p.partitions (Cl l al pre s).2).set x true,r88)) Q := by
   intro hc
   rw [AfW (s3' ha) (by omega) (by omega),Option.bind_some,Ahq,AgB]
   refine hn2 _ ?_
   rw [Zh,if_pos hc]
   simp only
   congr 1
   congr 1
   rw [List.filter_append]
   have h1 : pre.filter (fun c => !((Cl l al pre s).2 ++ [x]).contains c) = pre.filter (fun c => !(Cl l al pre s).2.contains c) := by
    apply List.filter_congr
    intro c hc2
    have : c ≠ x := fun e => hxpre (e ▸ hc2)
    simp [this]
   rw [h1]
   simp
  have hno : ¬ Vn al (Cl l al pre s).1 (cfg l x) = true → Ok (if (pre.filter (fun c => !(Cl l al pre s).2.contains c)).length + 1 ≤ 1073741824 then n (Nz l (Cl l al pre s).2,pre.filter (fun c => !(Cl l al pre s).2.contains c) ++ [x],Gz p.partitions (Cl l al pre s).2,(Cl l al pre s).1) else none) Q := by
   intro hc
   have hpl : pre.length ≤ (Ay t g).length := by rw [he]; simp
   have := List.length_filter_le (fun c => !(Cl l al pre s).2.contains c) pre
   refine Ok.guard (by omega) (hn2 _ ?_)
   rw [Zh,if_neg hc,List.filter_append]
   have : x ∉ (Cl l al pre s).2 := fun h => hxpre (s2' x h)
   simp [this]
  simp only [hget]
  by_cases c1 : (cfg l x).partition = 1
  ·rw [if_pos (by simpa using c1)]
   cases al with
   | true =>
    rw [if_pos rfl]
    by_cases c3 : 0 < (cfg l x).cpus.length
    ·rw [if_pos (by simpa using c3),hW,Option.bind_some]
     by_cases c4 : (cfg l x).cpus.all (fun y => (Cl l true pre s).1.contains y) = true
     ·rw [if_pos c4]
      by_cases c5 : (cfg l x).cpus.length < (Cl l true pre s).1.length
      ·rw [if_pos (by simpa using c5)]
       exact hyes (cond_iff.mpr ⟨c1,rfl,c3,by simpa using c4,c5⟩)
      ·rw [if_neg (by simpa using c5)]
       exact hno fun h => c5 (cond_iff.mp h).2.2.2.2
     ·rw [if_neg c4,if_neg (by simp)]
      exact hno fun h => c4 (by simpa using (cond_iff.mp h).2.2.2.1)
    ·rw [if_neg (by simpa using c3),if_neg (by simp)]
     exact hno fun h => c3 (cond_iff.mp h).2.2.1
   | false =>
    rw [if_neg (by simp),if_neg (by simp)]
    exact hno fun h => by have := (cond_iff.mp h).2.1; simp at this
  ·rw [if_neg (by simpa using c1),if_neg (by simp)]
   exact hno fun h => c1 (cond_iff.mp h).1
 ·intro s1 hI
  subst hI
  exact fin
theorem AfJ (u : UseS t l on) (hs : ∀ x ∈ l,En x.settings) {g : Int} {p : plan} (hl : p.configs = l) {ps ms left : List Int} {q : IMap Bool} (h16 : left.length ≤ 16) (hms : ms.length ≤ 64)
  {rec : plan → Int → List Int → Option plan} {Q : plan → Prop} (fin : Ok (Jz rec p g (Nz l ps,ms,q,left) (Nq l ps ms left)) Q) : Ok (Iu rec p g (Nz l ps,ms,q,left)) Q := by
 have hlen := u.fits.len
 have hn := u.w.len2
 unfold Iu
 refine Ok.guard (by simp only; omega) ?_
 refine Ok.range (fun pre s1 => s1 = Nq l ps pre left) (AhN ps left) ?_ ?_
 ·intro pre x post s1 n he hI hn2
  subst hI
  unfold Mz
  have hcs := (u.fits.cfg x).small
  rw [hl,Ur (by omega) hs,Option.bind_some,Agi hcs.2.2.1 (by omega) (by simp only; omega),Option.bind_some]
  simp only
  rw [Ahk]
  exact hn2 _ rfl
 ·intro s1 hI
  subst hI
  exact fin
theorem Th (w : WfT t) {g c x : Int} (hg : Di t g = true) (hc : c ∈ Ay t g) (h : Bn t c x = true) : Bn t g x = true ∧ x ≠ g := by
 rw [below_iff] at h ⊢
 obtain ⟨n,hn,hnx⟩ := Gq h
 subst hnx
 obtain ⟨e1,e2,e3⟩ := Rz w hc
 obtain ⟨r,er⟩ := Vj w hg
 have hcn : g ∈ upT t c := by
  rw [e1,er]
  simp
 refine ⟨AdG w hcn n hn h,fun e => ?_⟩
 have := up_le w n hn c h
 omega
theorem Sc (w : WfT t) {g x : Int} (hg : Di t g = true) : Bn t g x = true ↔ x = g ∨ ∃ c ∈ Ay t g,Bn t c x = true := by
 constructor
 ·intro h
  obtain ⟨n,hn,hnx⟩ := Gq (below_iff.mp h)
  subst hnx
  rcases AgD w n hn (below_iff.mp h) with h | ⟨c,hc,h⟩
  ·exact .inl h
  ·exact .inr ⟨c,hc,below_iff.mpr h⟩
 ·rintro (rfl | ⟨c,hc,h⟩)
  ·obtain ⟨r,er⟩ := Vj w hg
   rw [below_iff,er]
   simp
  ·exact (Th w hg hc h).1
theorem Acx (w : WfT t) {g c d x : Int} (hc : c ∈ Ay t g) (hd : d ∈ Ay t g) (h1 : Bn t c x = true) (h2 : Bn t d x = true) : c = d := by
 obtain ⟨y,hy,hyp,hyc⟩ := kids_iff.mp hc
 obtain ⟨z,hz,hzp,hzd⟩ := kids_iff.mp hd
 obtain ⟨n,hn,hnx⟩ := Gq (below_iff.mp h1)
 subst hnx
 have := up_one w hy hz hyp hzp n hn (by rw [hyc]; exact below_iff.mp h1) (by rw [hzd]; exact below_iff.mp h2)
 rw [← hyc,← hzd,this]
theorem Ut (w : WfT t) {g : Int} (hg : Di t g = true) : Bn t g g = true := by
 obtain ⟨r,er⟩ := Vj w hg
 rw [below_iff,er]
 simp
def Abq (t : Ab) (l : List Ac) (on : List Int) (g : Int) (rem : Int → Bool) (m : IMap (List Int)) : IMap (List Int) :=
 ⟨fun x => (x == g || (Ay t g).any (fun c => !rem c && Bn t c x)) || m.has x,fun x => if x == g || (Ay t g).any (fun c => !rem c && Bn t c x) then Hi t l on x else m.get x⟩
def Ul (t : Ab) (l : List Ac) (on : List Int) (g : Int) (rem : Int → Bool) (m : IMap Bool) : IMap Bool :=
 ⟨fun x => (Ay t g).any (fun c => !rem c && Bn t c x && x != c && Db t l on x) || m.has x,fun x => if (Ay t g).any (fun c => !rem c && Bn t c x && x != c && Db t l on x) then true else m.get x⟩
theorem Aia (w : WfT t) {g n : Int} {rem : Int → Bool} (hg : Di t g = true) (hn : n ∈ Ay t g) (m : IMap (List Int)) :
  setsA t l on n (Abq t l on g rem m) = Abq t l on g (Az rem n false) m := by
 have key : ∀ x,(Bn t n x || (x == g || (Ay t g).any (fun c => !rem c && Bn t c x))) = (x == g || (Ay t g).any (fun c => !(Az rem n false) c && Bn t c x)) := by
  intro x
  rw [Bool.eq_iff_iff]
  simp only [Bool.or_eq_true,beq_iff_eq,List.any_eq_true,Bool.and_eq_true,Bool.not_eq_true',Az]
  constructor
  ·rintro (h | h | ⟨c,hc,h1,h2⟩)
   ·exact .inr ⟨n,hn,by simp,h⟩
   ·exact .inl h
   ·refine .inr ⟨c,hc,?_,h2⟩
    split
    ·rfl
    ·exact h1
  ·rintro (h | ⟨c,hc,h1,h2⟩)
   ·exact .inr (.inl h)
   ·by_cases e : c = n
    ·subst e; exact .inl h2
    ·rw [if_neg e] at h1
     exact .inr (.inr ⟨c,hc,h1,h2⟩)
 apply IMap.ext'
 ·intro x
  show (Bn t n x || ((x == g || (Ay t g).any (fun c => !rem c && Bn t c x)) || m.has x)) = ((x == g || (Ay t g).any (fun c => !(Az rem n false) c && Bn t c x)) || m.has x)
  rw [← Bool.or_assoc,key x]
 ·intro x
  show (if Bn t n x = true then Hi t l on x else if (x == g || (Ay t g).any (fun c => !rem c && Bn t c x)) = true then Hi t l on x else m.get x) = (if (x == g || (Ay t g).any (fun c => !(Az rem n false) c && Bn t c x)) = true then Hi t l on x else m.get x)
  rw [← key x]
  cases Bn t n x <;> simp
theorem Aid (w : WfT t) {g n : Int} {rem : Int → Bool} (hg : Di t g = true) (hn : n ∈ Ay t g) (m : IMap Bool) :
  partA t l on n (Ul t l on g rem m) = Ul t l on g (Az rem n false) m := by
 have key : ∀ x,((Bn t n x && x != n && Db t l on x) || (Ay t g).any (fun c => !rem c && Bn t c x && x != c && Db t l on x)) = (Ay t g).any (fun c => !(Az rem n false) c && Bn t c x && x != c && Db t l on x) := by
  intro x
  rw [Bool.eq_iff_iff]
  simp only [Bool.or_eq_true,List.any_eq_true,Bool.and_eq_true,Bool.not_eq_true',Az,bne_iff_ne,ne_eq]
  constructor
  ·rintro (⟨⟨h1,h2⟩,h3⟩ | ⟨c,hc,⟨⟨h1,h2⟩,h3⟩,h4⟩)
   ·exact ⟨n,hn,⟨⟨by simp,h1⟩,h2⟩,h3⟩
   ·refine ⟨c,hc,⟨⟨?_,h2⟩,h3⟩,h4⟩
    split
    ·rfl
    ·exact h1
  ·rintro ⟨c,hc,⟨⟨h1,h2⟩,h3⟩,h4⟩
   by_cases e : c = n
   ·subst e; exact .inl ⟨⟨h2,h3⟩,h4⟩
   ·rw [if_neg e] at h1
    exact .inr ⟨c,hc,⟨⟨h1,h2⟩,h3⟩,h4⟩
 apply IMap.ext'
 ·intro x
  show ((Bn t n x && x != n && Db t l on x) || ((Ay t g).any (fun c => !rem c && Bn t c x && x != c && Db t l on x) || m.has x)) = _
  rw [← Bool.or_assoc,key x]
  rfl
 ·intro x
  show (if (Bn t n x && x != n && Db t l on x) = true then true else if (Ay t g).any (fun c => !rem c && Bn t c x && x != c && Db t l on x) = true then true else m.get x) = (if (Ay t g).any (fun c => !(Az rem n false) c && Bn t c x && x != c && Db t l on x) = true then true else m.get x)
  rw [← key x]
  cases (Bn t n x && x != n && Db t l on x) <;> simp
theorem AcF (w : WfT t) {g c : Int} (hg : Di t g = true) (hc : c ∈ Ay t g) : c ≠ 1 := by
 obtain ⟨e1,e2,e3⟩ := Rz w hc
 obtain ⟨x,hx,rfl⟩ := hasN_iff.mp hg
 have := w.id_pos hx
 omega
theorem divide_t (u : UseS t l on) (hs : ∀ x ∈ l,En x.settings) : ∀ (n : Nat) (g : Int) (p : plan),(t.next - g).toNat < n → Di t g = true → p.tree = t → p.configs = l → p.partitions.get g = Fc t l on g →
  (∀ x,Bn t g x = true → x ≠ g → p.partitions.get x = false) →
  Gi n p g (Dh t l on g) = some { tree := t,configs := l,sets := setsA t l on g p.sets,partitions := partA t l on g p.partitions } := by
 intro n
 have w := u.w
 induction n with
 | zero => intro g p h; omega
 | succ n ih =>
  intro g p hlt hg ht hl hal hbl
  have hgn : g < t.next := by
   obtain ⟨x,hx,rfl⟩ := hasN_iff.mp hg
   exact w.next x hx
  obtain ⟨q1,q2,q3,q4⟩ := Wl u hg
  obtain ⟨o1,o2,o3,o4⟩ := Vc u hg
  have hkl := Yj t g
  have hnl := w.len2
  rw [Gi]
  apply Ok.eq
  refine Agj u hs ht hl hg q1 q4 hal ?_
  have hmsl := List.length_filter_le (fun c => !(Mn t l g (Dh t l on g) (Fc t l on g)).contains c) (Ay t g)
  have o4' : (AcW t l g (Dh t l on g) (Fc t l on g)).length ≤ 16 := o4
  refine AfJ u hs hl o4' (by omega) ?_
  unfold Jz
  have hgiven : Nq l (Mn t l g (Dh t l on g) (Fc t l on g)) ((Ay t g).filter (fun c => !(Mn t l g (Dh t l on g) (Fc t l on g)).contains c)) (AcW t l g (Dh t l on g) (Fc t l on g)) =
    ⟨fun c => (Ay t g).contains c,fun c => if (Ay t g).contains c then Dh t l on c else []⟩ := by
   obtain ⟨s1,s2,s3⟩ := Ov (l := l) (al := Fc t l on g) (Ay t g) (Dh t l on g)
   have hpk : ∀ c,c ∈ Mn t l g (Dh t l on g) (Fc t l on g) → c ∈ Ay t g := s2
   apply IMap.ext'
   ·intro c
    simp only [Nq,List.contains_eq_mem,List.mem_filter]
    rw [Bool.eq_iff_iff]
    simp only [Bool.or_eq_true,decide_eq_true_eq,Bool.not_eq_true',decide_eq_false_iff_not]
    constructor
    ·rintro (h | h)
     ·exact h.1
     ·exact hpk c h
    ·intro h
     by_cases hp : c ∈ Mn t l g (Dh t l on g) (Fc t l on g)
     ·exact .inr hp
     ·exact .inl ⟨h,hp⟩
   ·intro c
    by_cases hck : c ∈ Ay t g
    ·have hsk := (Oh (l := l) (on := on) w hg hck).2
     simp only [Nq,List.contains_eq_mem,List.mem_filter,hck,true_and,decide_true,if_true,hsk]
     by_cases hp : c ∈ Mn t l g (Dh t l on g) (Fc t l on g)
     ·simp [hp,Ig]
     ·simp [hp,Ig,Hi]
    ·have hnp : c ∉ Mn t l g (Dh t l on g) (Fc t l on g) := fun h => hck (hpk c h)
     simp [Nq,hck,hnp]
  rw [hgiven]
  have hset : p.sets.set g (AcW t l g (Dh t l on g) (Fc t l on g)) = Abq t l on g (fun c => (Ay t g).contains c) p.sets := by
   apply IMap.ext'
   ·intro x
    simp only [IMap.set,Az,Abq]
    by_cases e : x = g
    ·simp [e]
    ·have : (Ay t g).any (fun c => !(Ay t g).contains c && Bn t c x) = false := by
      rw [List.any_eq_false]
      intro c hc
      simp [hc]
     rw [if_neg e,this]
     simp [e]
   ·intro x
    simp only [IMap.set,Az,Abq]
    have : (Ay t g).any (fun c => !(Ay t g).contains c && Bn t c x) = false := by
     rw [List.any_eq_false]
     intro c hc
     simp [hc]
    rw [this]
    by_cases e : x = g
    ·subst e; simp [Hi]
    ·simp [e]
  have hpart : Gz p.partitions (Mn t l g (Dh t l on g) (Fc t l on g)) = Ul t l on g (fun c => (Ay t g).contains c) (Gz p.partitions (Ig t l on g)) := by
   have hz : ∀ x,(Ay t g).any (fun c => !(Ay t g).contains c && Bn t c x && x != c && Db t l on x) = false := by
    intro x
    rw [List.any_eq_false]
    intro c hc
    simp [hc]
   apply IMap.ext'
   ·intro x
    simp only [Ul,hz x,Bool.false_or]
    rfl
   ·intro x
    simp only [Ul,hz x]
    rfl
  refine Ok.of_eq (b := { tree := t,configs := l,sets := setsA t l on g p.sets,partitions := partA t l on g p.partitions }) ?_ rfl
  refine AfG (fun rem s => (∀ c,rem c = true → c ∈ Ay t g) ∧ s = (t.nodes,t.next,l,Abq t l on g rem p.sets,Ul t l on g rem (Gz p.partitions (Ig t l on g)))) ?_ ?_ Ey (Ay t g) _ _ (Xg w g) (by rw [Ef]; omega) (by simp) ⟨by simp,?_⟩
  ·rintro rem s c N hrc ⟨hrk,rfl⟩ hN
   have hck := hrk c hrc
   obtain ⟨e1,e2,e3⟩ := Rz w hck
   unfold My
   simp only [List.contains_eq_mem,hck,decide_true,if_true]
   have hpget : (Ul t l on g rem (Gz p.partitions (Ig t l on g))).get c = Fc t l on c := by
    have hz : (Ay t g).any (fun d => !rem d && Bn t d c && c != d && Db t l on c) = false := by
     rw [List.any_eq_false]
     intro d hd
     simp only [Bool.and_eq_true,bne_iff_ne,ne_eq,not_and,Bool.not_eq_true]
     intro ⟨⟨_,h1⟩,h2⟩
     exact absurd (Acx w hck hd (Ut w e2) h1) h2
    have h1 : Fc t l on c = (Ig t l on g).contains c := by
     have := AcF w hg hck
     rw [← (Oh (l := l) (on := on) w hg hck).1]
     simp [Fc,this]
    simp only [Ul,hz,Bool.false_eq_true,if_false,Gz,h1]
    rw [hbl c (Th w hg hck (Ut w e2)).1 (Th w hg hck (Ut w e2)).2]
    cases (Ig t l on g).contains c <;> rfl
   have hpbl : ∀ x,Bn t c x = true → x ≠ c → (Ul t l on g rem (Gz p.partitions (Ig t l on g))).get x = false := by
    intro x hx hxc
    have hz : (Ay t g).any (fun d => !rem d && Bn t d x && x != d && Db t l on x) = false := by
     rw [List.any_eq_false]
     intro d hd
     simp only [Bool.and_eq_true,bne_iff_ne,ne_eq,not_and,Bool.not_eq_true,Bool.not_eq_true']
     intro ⟨⟨h0,h1⟩,_⟩
     have := Acx w hck hd hx h1
     subst this
     rw [hrc] at h0
     simp at h0
    have hnp : x ∉ Ig t l on g := by
     intro hxp
     have hxk : x ∈ Ay t g := (Ov (l := l) (al := Fc t l on g) (Ay t g) (Dh t l on g)).2.1 x hxp
     exact hxc (Acx w hck hxk hx (Ut w (Rz w hxk).2.1)).symm
    obtain ⟨b1,b2⟩ := Th w hg hck hx
    simp only [Ul,hz,Bool.false_eq_true,if_false,Gz,List.contains_eq_mem,hnp,decide_false]
    exact hbl x b1 b2
   have := ih c { tree := t,configs := l,sets := Abq t l on g rem p.sets,partitions := Ul t l on g rem (Gz p.partitions (Ig t l on g)) } (by omega) e2 rfl rfl hpget hpbl
   rw [this,Option.bind_some]
   simp only
   rw [Aia w hg hck,Aid w hg hck]
   refine hN _ ⟨fun d hd => ?_,rfl⟩
   simp only [Az] at hd
   split at hd
   ·simp at hd
   ·exact hrk d hd
  ·rintro s ⟨_,rfl⟩
   unfold Mw
   simp only
   congr 1
   congr 1
   ·apply IMap.ext'
    ·intro x
     show ((x == g || (Ay t g).any (fun c => !false && Bn t c x)) || p.sets.has x) = (Bn t g x || p.sets.has x)
     congr 1
     rw [Bool.eq_iff_iff,Sc w hg]
     simp
    ·intro x
     show (if (x == g || (Ay t g).any (fun c => !false && Bn t c x)) = true then _ else _) = (if Bn t g x = true then _ else _)
     have : (x == g || (Ay t g).any (fun c => !false && Bn t c x)) = Bn t g x := by
      rw [Bool.eq_iff_iff,Sc w hg]
      simp
     rw [this]
   ·have key : ∀ x,((Ay t g).any (fun c => !false && Bn t c x && x != c && Db t l on x) || (Ig t l on g).contains x) = (Bn t g x && x != g && Db t l on x) := by
     intro x
     rw [Bool.eq_iff_iff]
     simp only [Bool.or_eq_true,List.any_eq_true,Bool.and_eq_true,bne_iff_ne,ne_eq,Bool.not_false,true_and]
     constructor
     ·rintro (⟨c,hc,⟨h1,h2⟩,h3⟩ | h)
      ·obtain ⟨b1,b2⟩ := Th w hg hc h1
       exact ⟨⟨b1,b2⟩,h3⟩
      ·have hxp : x ∈ Ig t l on g := by simpa using h
       have hxk : x ∈ Ay t g := (Ov (l := l) (al := Fc t l on g) (Ay t g) (Dh t l on g)).2.1 x hxp
       obtain ⟨b1,b2⟩ := Th w hg hxk (Ut w (Rz w hxk).2.1)
       exact ⟨⟨b1,b2⟩,by rw [(Oh (l := l) (on := on) w hg hxk).1]; exact h⟩
     ·rintro ⟨⟨h1,h2⟩,h3⟩
      rcases (Sc w hg).mp h1 with h | ⟨c,hc,h⟩
      ·exact absurd h h2
      ·by_cases e : x = c
       ·subst e
        right
        rw [(Oh (l := l) (on := on) w hg hc).1] at h3
        exact h3
       ·exact .inl ⟨c,hc,⟨h,e⟩,h3⟩
    apply IMap.ext'
    ·intro x
     show ((Ay t g).any (fun c => !false && Bn t c x && x != c && Db t l on x) || ((Ig t l on g).contains x || p.partitions.has x)) = ((Bn t g x && x != g && Db t l on x) || p.partitions.has x)
     rw [← Bool.or_assoc,key x]
    ·intro x
     show (if (Ay t g).any (fun c => !false && Bn t c x && x != c && Db t l on x) = true then true else if (Ig t l on g).contains x = true then true else p.partitions.get x) = (if (Bn t g x && x != g && Db t l on x) = true then true else p.partitions.get x)
     rw [← key x]
     cases (Ay t g).any (fun c => !false && Bn t c x && x != c && Db t l on x) <;> simp
  ·rw [ht,hl,hset,hpart]
end Go.Dm

/- Plain theory of processor sets, part 5: what the program answers. -/
namespace Go.Dm
set_option linter.unusedVariables false
set_option linter.unusedSimpArgs false
variable {t : Ab} {l : List Ac} {on : List Int}
theorem Xj (w : WfT t) (x : Int) : Bn t 1 x = Di t x := by
 rw [Bool.eq_iff_iff,below_iff]
 constructor
 ·intro h
  obtain ⟨n,hn,rfl⟩ := Gq h
  exact hasN_iff.mpr ⟨n,hn,rfl⟩
 ·intro h
  obtain ⟨n,hn,rfl⟩ := hasN_iff.mp h
  refine w.induct (P := fun n => (1 : Int) ∈ upT t n.id) (fun n hn ih => ?_) n hn
  rcases w.p.par n hn with ⟨h1,_⟩ | ⟨_,_,⟨y,hy,hyp⟩,_⟩
  ·rw [h1,Afj w]
   simp
  ·have := ih y hy hyp
   rw [hyp] at this
   rw [w.up hn]
   simp [this]
def Jo (t : Ab) (l : List Ac) (on : List Int) : List Int := (t.nodes.map (·.id)).filter (fun x => x != 1 && Db t l on x)
theorem Abt (w : WfT t) : Asc (Jo t l on) := by
 refine Rk _ ?_
 rw [Asc,List.pairwise_map]
 exact w.sorted
theorem aloneL_mem {x : Int} : x ∈ Jo t l on ↔ Di t x = true ∧ x ≠ 1 ∧ Db t l on x = true := by
 unfold Jo
 rw [List.mem_filter,hasN_iff]
 simp
theorem Abe : (Jo t l on).length ≤ t.nodes.length := by
 unfold Jo
 have := List.length_filter_le (fun x => x != 1 && Db t l on x) (t.nodes.map (·.id))
 simpa using this
theorem of_t (u : UseS t l on) (hs : ∀ x ∈ l,En x.settings) :
  ∃ p,Qo t l on = some p ∧ (∀ x,p.sets.get x = if Di t x then Hi t l on x else []) ∧ ∀ x,p.partitions.has x = true ↔ x ∈ Jo t l on := by
 have w := u.w
 have h16 := Aab u.set (fun x h => h) u.set.1
 have hroot := AaY (l := l) (on := on) w
 have hnx := w.nextLe
 have e := divide_t u hs Ey 1 { tree := t,configs := l,sets := IMap.empty ([] : List Int),partitions := (IMap.empty false).set 1 true } (by rw [Ef]; omega) (Agz w) rfl rfl (by simp [IMap.set,Az,Fc]) (fun x hx hx1 => by simp [IMap.set,Az,hx1,IMap.empty])
 rw [hroot.1] at e
 unfold Qo Qb
 rw [Oi (by omega),Option.bind_some,e,Option.bind_some]
 refine ⟨_,rfl,fun x => ?_,fun x => ?_⟩
 ·simp only [setsA,IMap.empty,Xj w]
 ·simp only [IMap.del,partA,IMap.set,IMap.empty,Az,Xj w,aloneL_mem]
  by_cases h1 : x = 1
  ·simp [h1]
  ·simp [h1,and_assoc]
theorem UseS.iff : Usable t l on 16 ↔ UseS t l on := ⟨fun u => ⟨u.fits,u.pos,u.set⟩,fun u => ⟨u.fits,u.pos,u.set⟩⟩
theorem AdK (u : UseS t l on) (hs : ∀ x ∈ l,En x.settings) : Ij t l on 16 = some true := by
 have h16 := Aab u.set (fun x h => h) u.set.1
 have hl := u.fits.len
 have hn := u.w.len2
 obtain ⟨b,h1,h2⟩ := AeH (t := t) (l := l) (on := on) (n := 16) u.w.p.names (by omega) (by omega) hs (by omega)
 rw [h1,h2.mpr (UseS.iff.mpr u)]
theorem Cpus_t (u : UseS t l on) (hs : ∀ x ∈ l,En x.settings) (g : Int) : Fy t l on g = some (if Di t g then Hi t l on g else []) := by
 obtain ⟨p,h1,h2,_⟩ := of_t u hs
 unfold Fy
 rw [AdK u hs,Option.bind_some,if_neg (by simp),h1,Option.bind_some,h2 g]
 have hlen : (if Di t g then Hi t l on g else []).length ≤ 16 := by
  split
  ·rename_i h; exact (Vc u h).2.2.2
  ·simp
 rw [Oi (by omega),Option.bind_some]
theorem sort_to {L K : List Int} (hn : L.Nodup) (hm : ∀ x,x ∈ L ↔ x ∈ K) (hk : Asc K) (hl : L.length ≤ 1000) : Hx L = some K := by
 obtain ⟨M,h1,h2,h3⟩ := Sort_ok L hl
 have hnd : M.Nodup := h2.nodup_iff.mpr hn
 have ha : Asc M := by
  have := List.pairwise_and_iff.mpr ⟨h3,hnd⟩
  exact this.imp fun ⟨a,b⟩ => by omega
 rw [h1,AcH ha hk fun x => h2.mem_iff.trans (hm x)]
theorem Acc (u : UseS t l on) (hs : ∀ x ∈ l,En x.settings) : Jh t l on = some (Jo t l on) := by
 obtain ⟨p,h1,_,h3⟩ := of_t u hs
 have w := u.w
 have hn := w.len2
 have hal := Abe (t := t) (l := l) (on := on)
 unfold Jh
 rw [AdK u hs,Option.bind_some,if_neg (by simp),h1,Option.bind_some]
 refine AfG (fun rem s => s.Nodup ∧ (∀ x,rem x = true → x ∈ Jo t l on) ∧ ∀ x,x ∈ s ↔ x ∈ Jo t l on ∧ rem x = false) ?_ ?_ Ey (Jo t l on) _ _ (Aam (Abt w)) (by rw [Ef]; omega) (fun n => h3 n) ⟨List.nodup_nil,fun x hx => (h3 x).mp hx,fun x => ?_⟩
 ·rintro rem s n N hr ⟨i1,i2,i3⟩ hN
  unfold Px
  have hsl : s.length ≤ (Jo t l on).length := Tc i1 fun x hx => ((i3 x).mp hx).1
  rw [if_pos (by omega)]
  have hns : n ∉ s := fun h => by
   have := ((i3 n).mp h).2
   rw [hr] at this
   simp at this
  refine hN _ ⟨?_,fun x hx => ?_,fun x => ?_⟩
  ·rw [List.nodup_append]
   exact ⟨i1,by simp,fun a ha b hb => by simp at hb; subst hb; exact fun e => hns (e ▸ ha)⟩
  ·simp only [Az] at hx
   split at hx
   ·simp at hx
   ·exact i2 x hx
  ·rw [List.mem_append,List.mem_singleton,i3 x]
   simp only [Az]
   by_cases e : x = n
   ·subst e
    simp [i2 x hr]
   ·simp [e]
 ·rintro s ⟨i1,_,i3⟩
  unfold Pu
  have hsl : s.length ≤ (Jo t l on).length := Tc i1 fun x hx => ((i3 x).mp hx).1
  have hm : ∀ x,x ∈ s ↔ x ∈ Jo t l on := fun x => by rw [i3 x]; simp
  rw [sort_to i1 hm (Abt w) (by omega),Option.bind_some,if_pos]
  have h2 : (Jo t l on).length ≤ s.length := Tc (Aam (Abt w)) fun x hx => (hm x).mpr hx
  omega
 ·simp only [List.not_mem_nil,false_iff,not_and,Bool.not_eq_false]
  exact fun h => (h3 x).mpr h
theorem Aha (u : UseS t l on) (hs : ∀ x ∈ l,En x.settings) (g : Int) : Im t l on g = some ((Jo t l on).contains g) := by
 have hn := u.w.len2
 have hal := Abe (t := t) (l := l) (on := on)
 unfold Im
 rw [Acc u hs,Option.bind_some,AbF _ _ (by omega),Option.bind_some]
theorem Set_ok {d : Aj} (hd : Dc d) {n : Int} (n0 : 0 ≤ n) (n1 : n ≤ 1000) : Ok (Kr d n) (fun r => okSet n r.1 ∧ Dc r.2) := by
 unfold Kr
 refine Ok.guard (by omega) ?_
 have e : Int.toNat (n - 0) = n.toNat := by simp
 rw [e]
 refine Ok.for (fun j s => Dc s.1 ∧ Asc s.2 ∧ ∀ x ∈ s.2,0 ≤ x ∧ x < (j : Int)) ⟨hd,List.Pairwise.nil,fun x hx => by simp at hx⟩ ?_ ?_
 ·rintro j ⟨d,L⟩ m hj ⟨hd,ha,hb⟩ hm
  unfold Uv Mo
  simp only at hd ha hb
  have hlen := Afn ha hb
  refine Ok.bind (Tg hd 3 (by omega)) fun r hd => ?_
  refine Ok.ite (fun _ => Ok.guard (by simp only; omega) (hm _ ⟨hd,?_,?_⟩)) fun _ => hm _ ⟨hd,ha,fun x hx => ⟨(hb x hx).1,by have := (hb x hx).2; omega⟩⟩
  ·exact Aea ha fun y hy => by have := (hb y hy).2; omega
  ·intro x hx
   rcases List.mem_append.mp hx with h | h
   ·exact ⟨(hb x h).1,by have := (hb x h).2; omega⟩
   ·simp only [List.mem_singleton] at h
    subst h
    omega
 ·rintro ⟨d,L⟩ ⟨hd,ha,hb⟩
  unfold Tw
  exact Ok.ret ⟨⟨ha,fun x hx => ⟨(hb x hx).1,by have := (hb x hx).2; omega⟩⟩,hd⟩
theorem Online_ok {d : Aj} (hd : Dc d) {n : Int} (n0 : 1 ≤ n) (n1 : n ≤ 1000) : Ok (Lq d n) (fun r => okSet n r.1 ∧ 0 < r.1.length ∧ Dc r.2) := by
 unfold Lq
 refine Ok.bind (Set_ok hd (by omega) n1) fun r ⟨hs,hd⟩ => ?_
 refine Ok.ite (fun c => Ok.ret ⟨hs,by have := of_decide_eq_true c; simp only; omega,hd⟩) fun _ => Ok.guard (by omega) ?_
 have e : Int.toNat (n - 0) = n.toNat := by simp
 rw [e]
 refine Ok.for (fun j s => s.length = j ∧ Asc s ∧ ∀ x ∈ s,0 ≤ x ∧ x < (j : Int)) ⟨rfl,List.Pairwise.nil,fun x hx => by simp at hx⟩ ?_ ?_
 ·rintro j L m hj ⟨hl,ha,hb⟩ hm
  unfold Qp
  refine Ok.guard (by omega) (hm _ ⟨by simp [hl],?_,?_⟩)
  ·exact Aea ha fun y hy => by have := (hb y hy).2; omega
  ·intro x hx
   rcases List.mem_append.mp hx with h | h
   ·exact ⟨(hb x h).1,by have := (hb x h).2; omega⟩
   ·simp only [List.mem_singleton] at h
    subst h
    omega
 ·rintro L ⟨hl,ha,hb⟩
  unfold Qq
  exact Ok.ret ⟨⟨ha,fun x hx => ⟨(hb x hx).1,by have := (hb x hx).2; omega⟩⟩,by simp only; omega,hd⟩
def newL (t : Ab) : List Ac := t.nodes.map (fun x => { group := x.id,settings := dfS })
theorem Ahi (w : WfT t) : Wp t = some (newL t) := by
 have hn := w.len2
 unfold Wp Uw
 rw [Ud w,Option.bind_some,if_neg (by simp),if_pos (by omega)]
 have e : ∀ x : Int,Og [] x = some dfS := fun x => AgI (by simp) (by simp) x
 rw [Md (p := fun _ => true) (f := fun x : Ag => ({ group := x.id,settings := dfS } : Ac)) (r := Rc) (fun k x s n hs => by
  unfold Vb
  rw [e,Option.bind_some,if_pos hs,if_pos rfl]) (fun _ => rfl) (by simp; omega)]
 unfold Rc
 have e2 : t.nodes.filter (fun _ => true) = t.nodes := List.filter_eq_self.mpr (fun _ _ => rfl)
 rw [e2]
 rfl
end Go.Dm

/- Plain theory of processor sets, part 6: the example; who shares what with whom. -/
namespace Go.Dm
set_option linter.unusedVariables false
set_option linter.unusedSimpArgs false
variable {t : Ab} {l : List Ac} {on : List Int}
def exT : Ab := { nodes := [{ id := 1,parent := 0,name := ByteArray.empty,control := 0,kind := 0,owner := 0 },{ id := 2,parent := 1,name := bs [97],control := 0,kind := 0,owner := 0 },{ id := 3,parent := 1,name := bs [98],control := 0,kind := 0,owner := 0 }],next := 4 }
def exS : Aq := { pidsMax := 4611686018427387904,weight := 100,quota := 4611686018427387904,period := 100000,burst := 0,clampMin := 0,clampMax := 10000,cpus := [2,3],mems := [],partition := 1,memory := { min := 0,low := 0,high := 4611686018427387904,max := 4611686018427387904,swapMax := 4611686018427387904,together := false },devices := [] }
def exL : List Ac := [{ group := 1,settings := dfS },{ group := 2,settings := exS },{ group := 3,settings := dfS }]
theorem exS_ok : CheckP exS := by
 have e1 : Fj exS.memory = some true := by kernel_rfl
 have e2 : Ei exS.devices = some true := by kernel_rfl
 refine ⟨.inl rfl,⟨by simp [exS],by simp [exS]⟩,?_,by simp [exS],by simp [exS],⟨by simp [exS,Asc],fun x hx => ?_⟩,⟨List.Pairwise.nil,fun x hx => by simp [exS] at hx⟩,by simp [exS],e1,e2⟩
 ·unfold BandP
  simp [exS]
 ·simp only [exS,List.mem_cons,List.not_mem_nil,or_false] at hx
  omega
theorem exS_small : En exS := ⟨by simp [exS],by simp [exS],by simp [exS]⟩
theorem ex_use (w : WfT exT) : UseS exT exL [0,1,2,3] := by
 refine ⟨⟨w,rfl,fun x hx => ?_⟩,by simp,⟨by simp [Asc],fun x hx => ?_⟩⟩
 ·simp only [exL,List.mem_cons,List.not_mem_nil,or_false] at hx
  rcases hx with rfl | rfl | rfl
  ·exact Aej
  ·exact exS_ok
  ·exact Aej
 ·simp only [List.mem_cons,List.not_mem_nil,or_false] at hx
  omega
theorem Agu : ∀ x ∈ exL,En x.settings := by
 intro x hx
 simp only [exL,List.mem_cons,List.not_mem_nil,or_false] at hx
 rcases hx with rfl | rfl | rfl
 ·exact AbY
 ·exact exS_small
 ·exact AbY
theorem Ags : Pb = some true := by
 have k1 : Ou newT 1 (bs [97]) = some ({ nodes := [{ id := 1,parent := 0,name := ByteArray.empty,control := 0,kind := 0,owner := 0 },{ id := 2,parent := 1,name := bs [97],control := 0,kind := 0,owner := 0 }],next := 3 },2,0) := by kernel_rfl
 have k2 : Ou { nodes := [{ id := 1,parent := 0,name := ByteArray.empty,control := 0,kind := 0,owner := 0 },{ id := 2,parent := 1,name := bs [97],control := 0,kind := 0,owner := 0 }],next := 3 } 1 (bs [98]) = some (exT,3,0) := by kernel_rfl
 have w1 := AeL Afk (p := 1) (s := bs [97]) (r := ({ nodes := [{ id := 1,parent := 0,name := ByteArray.empty,control := 0,kind := 0,owner := 0 },{ id := 2,parent := 1,name := bs [97],control := 0,kind := 0,owner := 0 }],next := 3 },2,0)) (by
  have := Abz Afk 1 (bs [97])
  rw [k1] at this
  exact (Option.some.inj this).symm) rfl
 have w : WfT exT := AeL w1 (p := 1) (s := bs [98]) (r := (exT,3,0)) (by
  have := Abz w1 1 (bs [98])
  simp only at this
  rw [k2] at this
  exact (Option.some.inj this).symm) rfl
 have u := ex_use w
 have hc := Cpus_t u Agu
 have he := Aha u Agu
 have c2 : Fy exT exL [0,1,2,3] 2 = some [2,3] := by rw [hc]; kernel_rfl
 have c3 : Fy exT exL [0,1,2,3] 3 = some [0,1] := by rw [hc]; kernel_rfl
 have c1 : Fy exT exL [0,1,2,3] 1 = some [0,1] := by rw [hc]; kernel_rfl
 have e2 : Im exT exL [0,1,2,3] 2 = some true := by rw [he]; kernel_rfl
 have s1 : Ir [2,3] [2,3] = some true := by kernel_rfl
 have s2 : Ir [0,1] [0,1] = some true := by kernel_rfl
 unfold Pb Ln
 rw [Ads,Option.bind_some,k1,Option.bind_some]
 simp only
 rw [k2,Option.bind_some]
 simp only
 rw [Ahi w,Option.bind_some]
 have hl : (newL exT).length = 3 := rfl
 rw [if_pos (by omega),if_pos (by omega),Option.bind_some,if_pos (by omega),if_pos (by omega),Option.bind_some]
 have hset : ∀ x,x = exL → (Option.bind (Fy exT x [0,1,2,3] 2) fun r14 => (Option.bind (Ir r14 [2,3]) fun r15 => (if r15 then (Option.bind (Fy exT x [0,1,2,3] 3) fun r17 => (Option.bind (Ir r17 [0,1]) fun r18 => (if r18 then (Option.bind (Fy exT x [0,1,2,3] 1) fun r20 => (Option.bind (Ir r20 [0,1]) fun r21 => (if r21 then (Option.bind (Im exT x [0,1,2,3] 2) fun r23 => some r23) else some false))) else some false))) else some false))) = some true := by
  rintro x rfl
  rw [c2,Option.bind_some,s1,Option.bind_some,if_pos rfl,c3,Option.bind_some,s2,Option.bind_some,if_pos rfl,c1,Option.bind_some,s2,Option.bind_some,if_pos rfl,e2,Option.bind_some]
 exact hset _ rfl
theorem Weight_ok {d : Aj} (hd : Dc d) : Ok (Ls d) (fun r => (1 ≤ r.1 ∧ r.1 ≤ 10000) ∧ Dc r.2) := by
 unfold Ls
 refine Ok.bind (Ii hd 1000 (by omega) (by omega)) fun r4 ⟨hd,a0,a1⟩ => Ok.bind (Ii hd 8 (by omega) (by omega)) fun r5 ⟨hd,b0,b1⟩ => ?_
 have hw : w64 (1 + r4.1) = 1 + r4.1 := As (by omega) (by omega)
 rw [hw]
 refine Ok.guard ⟨b0,by simp; omega⟩ (Ok.guard (by simp; omega) (Ok.ret ⟨?_,hd⟩))
 have : r5.1 = 0 ∨ r5.1 = 1 ∨ r5.1 = 2 ∨ r5.1 = 3 ∨ r5.1 = 4 ∨ r5.1 = 5 ∨ r5.1 = 6 ∨ r5.1 = 7 := by omega
 simp only
 rcases this with e | e | e | e | e | e | e | e <;> rw [e] <;> simp <;> omega
theorem Zy : Me = some dfS := rfl
theorem Abf {a b : Int} {L : List Int} (h : okSet a L) (hab : a ≤ b) : okSet b L := ⟨h.1,fun x hx => ⟨(h.2 x hx).1,by have := (h.2 x hx).2; omega⟩⟩
theorem Ahj {d : Aj} (hd : Dc d) : Ok (Kf d) (fun r => CheckP r.1 ∧ En r.1 ∧ Dc r.2) := by
 unfold Kf
 rw [Zy,Option.bind_some]
 have h5 : ∀ (y1 : Aj × Int) (r5 : Int × Aj) (y2 : Aj × Int × Int) (r10 r11 r12 : Int × Aj) (y3 y4 : Aj × List Int) (r19 : Bool × Aj) (y5 : Int),
   (y1.2 = 4611686018427387904 ∨ (0 ≤ y1.2 ∧ y1.2 ≤ 1099511627776)) → (1 ≤ r5.1 ∧ r5.1 ≤ 10000) → (if y2.2.1 = 4611686018427387904 then y2.2.2 = 0 else (1 ≤ y2.2.1 ∧ y2.2.1 ≤ 1000000) ∧ 0 ≤ y2.2.2 ∧ y2.2.2 ≤ y2.2.1) →
   (0 ≤ r10.1 ∧ r10.1 < 9) → (0 ≤ r11.1 ∧ r11.1 < 10001) → (0 ≤ r12.1 ∧ r12.1 < 10001) → okSet 16 y3.2 → okSet 8 y4.2 → (0 ≤ y5 ∧ y5 ≤ 1) → Dc r19.2 →
   Ok (Hn dfS y1 r5 y2 r10 r11 r12 y3 y4 r19 y5) (fun r => CheckP r.1 ∧ En r.1 ∧ Dc r.2) := by
  intro y1 r5 y2 r10 r11 r12 y3 y4 r19 y5 a1 a2 a3 a4 a5 a6 a7 a8 a9 hd
  unfold Hn
  have hw : w64 (1 + r10.1) = 1 + r10.1 := As (by omega) (by omega)
  rw [hw]
  have e1 : Fj dfS.memory = some true := by kernel_rfl
  have e2 : Ei dfS.devices = some true := by kernel_rfl
  have l1 := a7.len (by omega)
  have l2 := a8.len (by omega)
  exact Ok.ret ⟨⟨a1,a2,⟨by simp only; omega,a3⟩,by simp only; omega,by simp only; omega,a7,a8,a9,e1,e2⟩,⟨by simp only; omega,by simp only; omega,by simp [dfS]⟩,hd⟩
 have h4 : ∀ (y1 : Aj × Int) (r5 : Int × Aj) (y2 : Aj × Int × Int) (r10 r11 r12 : Int × Aj) (y3 y4 : Aj × List Int),
   (y1.2 = 4611686018427387904 ∨ (0 ≤ y1.2 ∧ y1.2 ≤ 1099511627776)) → (1 ≤ r5.1 ∧ r5.1 ≤ 10000) → (if y2.2.1 = 4611686018427387904 then y2.2.2 = 0 else (1 ≤ y2.2.1 ∧ y2.2.1 ≤ 1000000) ∧ 0 ≤ y2.2.2 ∧ y2.2.2 ≤ y2.2.1) →
   (0 ≤ r10.1 ∧ r10.1 < 9) → (0 ≤ r11.1 ∧ r11.1 < 10001) → (0 ≤ r12.1 ∧ r12.1 < 10001) → okSet 16 y3.2 → okSet 8 y4.2 → Dc y4.1 →
   Ok (Hp dfS y1 r5 y2 r10 r11 r12 y3 y4) (fun r => CheckP r.1 ∧ En r.1 ∧ Dc r.2) := by
  intro y1 r5 y2 r10 r11 r12 y3 y4 a1 a2 a3 a4 a5 a6 a7 a8 hd
  unfold Hp
  exact Ok.bind (Tg hd 3 (by omega)) fun r19 hd => Ok.ite (fun _ => h5 _ _ _ _ _ _ _ _ _ _ a1 a2 a3 a4 a5 a6 a7 a8 (by omega) hd) fun _ => h5 _ _ _ _ _ _ _ _ _ _ a1 a2 a3 a4 a5 a6 a7 a8 (by simp [dfS]) hd
 have h3 : ∀ (y1 : Aj × Int) (r5 : Int × Aj) (y2 : Aj × Int × Int) (r10 r11 r12 : Int × Aj) (y3 : Aj × List Int),
   (y1.2 = 4611686018427387904 ∨ (0 ≤ y1.2 ∧ y1.2 ≤ 1099511627776)) → (1 ≤ r5.1 ∧ r5.1 ≤ 10000) → (if y2.2.1 = 4611686018427387904 then y2.2.2 = 0 else (1 ≤ y2.2.1 ∧ y2.2.1 ≤ 1000000) ∧ 0 ≤ y2.2.2 ∧ y2.2.2 ≤ y2.2.1) →
   (0 ≤ r10.1 ∧ r10.1 < 9) → (0 ≤ r11.1 ∧ r11.1 < 10001) → (0 ≤ r12.1 ∧ r12.1 < 10001) → okSet 16 y3.2 → Dc y3.1 →
   Ok (Hm dfS y1 r5 y2 r10 r11 r12 y3) (fun r => CheckP r.1 ∧ En r.1 ∧ Dc r.2) := by
  intro y1 r5 y2 r10 r11 r12 y3 a1 a2 a3 a4 a5 a6 a7 hd
  unfold Hm
  refine Ok.bind (Tg hd 2 (by omega)) fun r16 hd => Ok.ite (fun _ => ?_) fun _ => h4 _ _ _ _ _ _ _ _ a1 a2 a3 a4 a5 a6 a7 ⟨List.Pairwise.nil,fun x hx => by simp [dfS] at hx⟩ hd
  exact Ok.bind (Set_ok hd (n := 4) (by omega) (by omega)) fun r18 ⟨hs,hd⟩ => h4 _ _ _ _ _ _ _ _ a1 a2 a3 a4 a5 a6 a7 (Abf hs (by omega)) hd
 have h2 : ∀ (y1 : Aj × Int) (r5 : Int × Aj) (y2 : Aj × Int × Int),
   (y1.2 = 4611686018427387904 ∨ (0 ≤ y1.2 ∧ y1.2 ≤ 1099511627776)) → (1 ≤ r5.1 ∧ r5.1 ≤ 10000) → (if y2.2.1 = 4611686018427387904 then y2.2.2 = 0 else (1 ≤ y2.2.1 ∧ y2.2.1 ≤ 1000000) ∧ 0 ≤ y2.2.2 ∧ y2.2.2 ≤ y2.2.1) →
   Dc y2.1 → Ok (Hk dfS y1 r5 y2) (fun r => CheckP r.1 ∧ En r.1 ∧ Dc r.2) := by
  intro y1 r5 y2 a1 a2 a3 hd
  unfold Hk
  refine Ok.bind (Ii hd 9 (by omega) (by omega)) fun r10 ⟨hd,b0,b1⟩ => Ok.bind (Ii hd 10001 (by omega) (by omega)) fun r11 ⟨hd,c0,c1⟩ => Ok.bind (Ii hd 10001 (by omega) (by omega)) fun r12 ⟨hd,d0,d1⟩ => ?_
  refine Ok.bind (Tg hd 2 (by omega)) fun r13 hd => Ok.ite (fun _ => ?_) fun _ => h3 _ _ _ _ _ _ _ a1 a2 a3 ⟨b0,b1⟩ ⟨c0,c1⟩ ⟨d0,d1⟩ ⟨List.Pairwise.nil,fun x hx => by simp [dfS] at hx⟩ hd
  exact Ok.bind (Set_ok hd (n := 6) (by omega) (by omega)) fun r15 ⟨hs,hd⟩ => h3 _ _ _ _ _ _ _ a1 a2 a3 ⟨b0,b1⟩ ⟨c0,c1⟩ ⟨d0,d1⟩ (Abf hs (by omega)) hd
 have h1 : ∀ (y1 : Aj × Int),(y1.2 = 4611686018427387904 ∨ (0 ≤ y1.2 ∧ y1.2 ≤ 1099511627776)) → Dc y1.1 → Ok (Ht dfS y1) (fun r => CheckP r.1 ∧ En r.1 ∧ Dc r.2) := by
  intro y1 a1 hd
  unfold Ht
  refine Ok.bind (Weight_ok hd) fun r5 ⟨hw,hd⟩ => Ok.bind (Tg hd 2 (by omega)) fun r6 hd => Ok.ite (fun _ => ?_) fun _ => h2 _ _ _ a1 hw (by simp [dfS]) hd
  refine Ok.bind (Ii hd 9 (by omega) (by omega)) fun r8 ⟨hd,b0,b1⟩ => ?_
  have e1 : w64 (1 + r8.1) = 1 + r8.1 := As (by omega) (by omega)
  have e2 : w64 (1 + r8.1 + 1) = 2 + r8.1 := by rw [As (by omega) (by omega)]; omega
  rw [e1,e2]
  refine Ok.bind (Ii hd (2 + r8.1) (by omega) (by omega)) fun r9 ⟨hd,c0,c1⟩ => h2 _ _ _ a1 hw ?_ hd
  simp only
  rw [if_neg (by omega)]
  omega
 refine Ok.bind (Tg hd 2 (by omega)) fun r2 hd => Ok.ite (fun _ => ?_) fun _ => h1 _ (.inl rfl) hd
 exact Ok.bind (Ii hd 6 (by omega) (by omega)) fun r4 ⟨hd,b0,b1⟩ => h1 _ (.inr (by simp only; omega)) hd
theorem AhC {d : Aj} (hd : Dc d) (w : WfT t) : Ok (Kv d t) (fun r => FitsS t r.1 ∧ (∀ x ∈ r.1,En x.settings) ∧ Dc r.2) := by
 have hn := w.len2
 unfold Kv
 refine Ok.guard (by omega) ?_
 refine Ok.range (fun pre s => Dc s.1 ∧ s.2.map (·.group) = pre.map (·.id) ∧ ∀ x ∈ s.2,CheckP x.settings ∧ En x.settings) ⟨hd,rfl,by simp⟩ ?_ ?_
 ·rintro pre x post ⟨d,L⟩ m he ⟨hd,hg,hc⟩ hm
  simp only at hd hg hc
  have hlen : L.length = pre.length := by
   have := congrArg List.length hg
   simpa using this
  have hpl : pre.length ≤ t.nodes.length := by rw [he]; simp
  have hJ : ∀ (y : Aj × Aq),CheckP y.2 → En y.2 → Dc y.1 → Ok (Ia x (d,L) m y) (fun r => FitsS t r.1 ∧ (∀ x ∈ r.1,En x.settings) ∧ Dc r.2) := by
   intro y h1 h2 h3
   unfold Ia
   refine Ok.guard (by simp only; omega) (hm _ ⟨h3,by simp [hg],fun z hz => ?_⟩)
   rcases List.mem_append.mp hz with h | h
   ·exact hc z h
   ·simp only [List.mem_singleton] at h
    subst h
    exact ⟨h1,h2⟩
  unfold Pv
  rw [Zy,Option.bind_some]
  refine Ok.bind (Tg hd 2 (by omega)) fun r16 hd => Ok.ite (fun _ => ?_) fun _ => hJ _ Aej AbY hd
  exact Ok.bind (Ahj hd) fun r18 ⟨h1,h2,h3⟩ => hJ _ h1 h2 h3
 ·rintro ⟨d,L⟩ ⟨hd,hg,hc⟩
  unfold Qa
  exact Ok.ret ⟨⟨w,hg,fun x hx => (hc x hx).1⟩,fun x hx => (hc x hx).2,hd⟩
end Go.Dm

/- Plain theory of processor sets, part 7: who shares what with whom. -/
namespace Go.Dm
set_option linter.unusedVariables false
set_option linter.unusedSimpArgs false
variable {t : Ab} {l : List Ac} {on : List Int}
theorem Adj {A B : List Int} (h : Asc A) (ha : A.length ≤ 1000) (hb : B.length ≤ 9223372036854775807) : Np A B = some (Ph A B) := by
 unfold Np
 rw [if_pos (by omega),Md (p := fun x : Int => B.contains x) (f := fun x => x) (r := Oy) (fun k x s n hs => by
  unfold Sx Lr
  rw [AbL _ _ hb,Option.bind_some,if_pos hs]) (fun _ => rfl) (by simp; omega)]
 unfold Oy
 have hm : (A.filter (fun x => B.contains x)).map (fun x => x) = Ph A B := by simp [Ph]
 have hl := List.length_filter_le (fun x => B.contains x) A
 rw [hm,List.nil_append,Zz (l := Ph A B) (by unfold Ph; omega) (Rk _ h),Option.bind_some]
theorem AfI {A B : List Int} (h : Asc A) (ha : A.length ≤ 1000) (hb : B.length ≤ 9223372036854775807) : Up A B = some (Ke A B) := by
 unfold Up
 rw [if_pos (by omega),Md (p := fun x : Int => !B.contains x) (f := fun x => x) (r := Uc) (fun k x s n hs => by
  unfold Zc Qu
  rw [AbL _ _ hb,Option.bind_some,if_pos hs]) (fun _ => rfl) (by simp; omega)]
 unfold Uc
 have hm : (A.filter (fun x => !B.contains x)).map (fun x => x) = Ke A B := by simp [Ke]
 have hl := List.length_filter_le (fun x => !B.contains x) A
 rw [hm,List.nil_append,Zz (l := Ke A B) (by unfold Ke; omega) (Rk _ h),Option.bind_some]
theorem Wu {A B : List Int} (h : Asc A) (ha : A.length ≤ 1000) (hb : B.length ≤ 9223372036854775807) (hs : ∀ x ∈ A,x ∈ B) : Mv A B = some true := by
 unfold Mv
 rw [AfI h ha hb,Option.bind_some]
 have : Ke A B = [] := by
  unfold Ke
  rw [List.filter_eq_nil_iff]
  intro x hx
  simp [hs x hx]
 rw [this]
 rfl
theorem alone_up (u : UseS t l on) {x : Ag} (hx : x ∈ t.nodes) (ha : Db t l on x.id = true) :
  Fc t l on x.parent = true ∧ Di t x.parent = true ∧ (cfg l x.id).partition = 1 ∧ Dh t l on x.id = (cfg l x.id).cpus ∧ x.id ∈ Ig t l on x.parent ∧ x.id ∈ Ay t x.parent ∧ ∀ y ∈ Dh t l on x.id,y ∈ Dh t l on x.parent ∧ y ∉ Hi t l on x.parent := by
 have w := u.w
 rcases w.p.par x hx with ⟨h1,_⟩ | ⟨_,_,⟨y,hy,hyp⟩,_⟩
 ·rw [h1,(AaY w).2] at ha
  simp at ha
 ·have hg : Di t x.parent = true := hasN_iff.mpr ⟨y,hy,hyp⟩
  have hk : x.id ∈ Ay t x.parent := kids_iff.mpr ⟨x,hx,rfl,rfl⟩
  obtain ⟨e1,e2⟩ := Oh (l := l) (on := on) w hg hk
  rw [e1] at ha
  rw [if_pos ha] at e2
  have hp : x.id ∈ Ig t l on x.parent := by simpa using ha
  obtain ⟨i1,_⟩ := Wl u hg
  obtain ⟨p1,_⟩ := Ti (al := Fc t l on x.parent) u.asc (Ay t x.parent) _ i1
  obtain ⟨q1,q2,q3,q4⟩ := p1 _ hp
  exact ⟨q1,hg,q2,e2,hp,hk,fun z hz => q4 z (by rw [← e2]; exact hz)⟩
theorem all_up (u : UseS t l on) : ∀ x ∈ t.nodes,Fc t l on x.id = true → ∀ k ∈ upT t x.id,Fc t l on k = true ∧ ∀ y ∈ Dh t l on x.id,y ∈ Dh t l on k := by
 have w := u.w
 refine w.induct fun x hx ih ha k hk => ?_
 by_cases h1 : x.id = 1
 ·rw [h1,Afj w] at hk
  simp only [List.mem_singleton] at hk
  subst hk
  rw [← h1]
  exact ⟨ha,fun y hy => hy⟩
 ·have hal : Db t l on x.id = true := by simpa [Fc,h1] using ha
  obtain ⟨b1,b2,b3,b4,b5,b6,b7⟩ := alone_up u hx hal
  obtain ⟨y,hy,hyp⟩ := hasN_iff.mp b2
  rw [w.up hx] at hk
  rcases List.mem_cons.mp hk with rfl | hk
  ·exact ⟨ha,fun y hy => hy⟩
  ·have := ih y hy hyp (by rw [hyp]; exact b1) k (by rw [hyp]; exact hk)
   rw [hyp] at this
   exact ⟨this.1,fun z hz => this.2 z (b7 z hz).1⟩
theorem own_one (u : UseS t l on) : ∀ (n : Nat) (g : Int),(t.next - g).toNat < n → Di t g = true → ∀ x x',Bn t g x = true → Bn t g x' = true → Fc t l on x = true → Fc t l on x' = true → ∀ y,y ∈ Hi t l on x → y ∈ Hi t l on x' → x = x' := by
 intro n
 have w := u.w
 induction n with
 | zero => intro g h; omega
 | succ n ih =>
  intro g hlt hg x x' hx hx' ha ha' y hy hy'
  have hgn : g < t.next := by
   obtain ⟨z,hz,rfl⟩ := hasN_iff.mp hg
   exact w.next z hz
  obtain ⟨i1,_⟩ := Wl u hg
  obtain ⟨p1,p2,p3,_⟩ := Ti (al := Fc t l on g) u.asc (Ay t g) _ i1
  have key : ∀ z c,c ∈ Ay t g → Bn t c z = true → Fc t l on z = true → y ∈ Hi t l on z → c ∈ Ig t l on g ∧ y ∈ (cfg l c).cpus := by
   intro z c hc hz haz hyz
   obtain ⟨m,hm,rfl⟩ := Gq (below_iff.mp hz)
   obtain ⟨q1,q2⟩ := all_up u m hm haz c (below_iff.mp hz)
   have hc1 := AcF w hg hc
   have hac : Db t l on c = true := by simpa [Fc,hc1] using q1
   obtain ⟨s1,s2⟩ := Oh (l := l) (on := on) w hg hc
   rw [hac] at s1
   rw [if_pos s1.symm] at s2
   have hys := q2 y ((Vc u (hasN_iff.mpr ⟨m,hm,rfl⟩)).2.1 y hyz)
   rw [s2] at hys
   exact ⟨by simpa using s1.symm,hys⟩
  rcases (Sc w hg).mp hx with rfl | ⟨c,hc,hcx⟩ <;> rcases (Sc w hg).mp hx' with rfl | ⟨c',hc',hcx'⟩
  ·rfl
  ·obtain ⟨k1,k2⟩ := key x' c' hc' hcx' ha' hy'
   exact absurd hy ((p1 c' k1).2.2.2 y k2).2
  ·obtain ⟨k1,k2⟩ := key x c hc hcx ha hy
   exact absurd hy' ((p1 c k1).2.2.2 y k2).2
  ·obtain ⟨k1,k2⟩ := key x c hc hcx ha hy
   obtain ⟨k3,k4⟩ := key x' c' hc' hcx' ha' hy'
   have := p3 (Xg w g) c k1 c' k3 y k2 k4
   subst this
   obtain ⟨e1,e2,e3⟩ := Rz w hc
   exact ih c (by omega) e2 x x' hcx hcx' ha ha' y hy hy'
theorem AhM (u : UseS t l on) {x x' : Int} (hx : Di t x = true) (hx' : Di t x' = true) (ha : Fc t l on x = true) (ha' : Fc t l on x' = true) {y : Int} (hy : y ∈ Hi t l on x) (hy' : y ∈ Hi t l on x') : x = x' :=
 own_one u ((t.next - 1).toNat + 1) 1 (by omega) (Agz u.w) x x' (by rw [Xj u.w]; exact hx) (by rw [Xj u.w]; exact hx') ha ha' y hy hy'
end Go.Dm

/- The data machine: loops over functions. -/
namespace Go.Dm
def Pk : Go.Obj → Bool
 | .loop _ => true
 | .deferred _ => true
 | _ => false
theorem Aff {P : Program} {g : Operand} {ps : Array Tmp} {assign body : Code} {Q : Exit → Act → World → Prop} {a : Act} {w : World} {gf : Nat} {lb : Array Value}
  (hg : a.eval g = .func (.func gf) #[] lb) (eg : ∀ args w,(callFunc gf args).run P w = .ok (.enter gf args) w)
  (N : Nat) (encs : Nat → Array Value) (hps : ∀ k,(encs k).size = ps.size) (Hd : World → Prop)
  (hseq : ∀ (l : Nat) (J : Nat → World → Prop) (W : World),(∀ k W1,J k W1 → Hd W1) →
   (∀ k W1,k < N → J k W1 → YieldAt (fen none) 0 P l (encs k) W1 fun e W' => e = .returned (.bool true) ∧ J (k + 1) W') → J 0 W →
   CallsIn (fen none) 0 P gf (#[.func (.yield l) #[] #[]] ++ lb) W fun e W' => (∃ v,e = .returned v) ∧ J N W')
  (I : Nat → World → Prop) (hI : ∀ k W,I k W → Hd W)
  (hturn : ∀ k W b o o',I k W → w.heap.size ≤ b → b ≤ w.heap.size + 1 → W.heap[b]? = some o → Pk o = true → Pk o' = true → I k (W.putObj b o'))
  (h0 : ∀ L,I 0 ((w.alloc (.deferred (some []))).alloc (.loop L))) (a₁ : Nat → Act)
  (hassign : ∀ (l k : Nat) (W : World) (K : Act → World → Prop),k < N → K (a₁ k) W →
   assign.wpIn (fen (some l)) 0 P (Exit.then K (fun _ _ _ => False)) { tmps := (ps.zip (encs k)).foldl (fun t (p,v) => t.setIfInBounds p v) a.tmps,defers := [] } W)
  (hbody : ∀ (l k : Nat) (W : World),k < N → I k W → body.wpIn (fen (some l)) 0 P (fun e _ W' => e = .normal ∧ I (k + 1) W' ∧
   ∀ b o,w.heap.size ≤ b → b ≤ w.heap.size + 1 → W.heap[b]? = some o → Pk o = true → W'.heap[b]? = some o) (a₁ k) W)
  (hdone : ∀ W,I N W → W.heap[w.heap.size]? = some (.deferred (some [])) → Q .normal { a with defers := { target := .collected w.heap.size,args := #[] } :: a.defers } W) :
  (Code.rangeFunc g ps assign body).wpIn (fen none) 0 P Q a w := by
 refine wpIn_rangeFunc fun fn hfn => ?_
 obtain ⟨rec,hrec⟩ : ∃ rec : LoopState → Option Code → Loop,rec = fun st pe => { state := st,pending := pe,fn,tmps := a.tmps,params := ps,assign,body,defers := w.heap.size } := ⟨_,rfl⟩
 obtain ⟨W1,hW1⟩ : ∃ W1,(w.alloc (.deferred (some []))).alloc (.loop (rec .ready none)) = W1 := ⟨_,rfl⟩
 have hL1 : W1.heap[w.heap.size + 1]? = some (.loop (rec .ready none)) := by
  rw [← hW1]; have := World.alloc_heap_new (w.alloc (.deferred (some []))) (.loop (rec .ready none)); rwa [World.size_alloc] at this
 have hK1 : W1.heap[w.heap.size]? = some (.deferred (some [])) := by
  rw [← hW1]; exact (RowKit.Below.heap_alloc _ _ _ (by simp)).trans (World.alloc_heap_new w _)
 have hI1 : I 0 W1 := by rw [← hW1]; exact h0 _
 refine ⟨w.heap.size + 1,[{ target := .collected w.heap.size,args := #[] }],W1,{ target := .fn (.func gf) lb,args := #[.func (.yield (w.heap.size + 1)) #[] #[]] },W1,gf,
  #[.func (.yield (w.heap.size + 1)) #[] #[]] ++ lb,W1,?_,?_,fun _ _ => trivial,?_,fun h => by simp [fen,Fence.wide] at h,?_⟩
 ·rw [← hW1,hrec]; exact run_enterLoop_outer _ _ _ _ _
 ·simp only [resolve,hg]
  simp [go_sem]
 ·simp [invoke,go_sem,eg]
 ·refine (hseq (w.heap.size + 1)
   (fun k W => I k W ∧ W.heap[w.heap.size + 1]? = some (.loop (rec .ready none)) ∧ W.heap[w.heap.size]? = some (.deferred (some [])))
   W1 (fun k W h => hI k W h.1) ?_ ⟨hI1,hL1,hK1⟩).mono ?_
  ·rintro k W hk ⟨hi,hl,hd⟩
   have hlt : w.heap.size + 1 < W.heap.size := (Array.getElem?_eq_some_iff.1 hl).1
   have hy := run_yield (P := P) (args := encs k) hl (by rw [hrec]; exact hps k)
   rw [hrec] at hy
   refine ⟨fn,_,assign,body,hy,roundIn_of_wpIn hfn (hassign _ k W _ hk ⟨_,run_beginRound hl (by rw [hrec]),?_⟩)⟩
   have hl2 : (W.putObj (w.heap.size + 1) (.loop { rec .ready none with state := .busy })).heap[w.heap.size + 1]? = some (.loop { rec .ready none with state := .busy }) := World.putObj_heap_same hlt
   have hd2 : (W.putObj (w.heap.size + 1) (.loop { rec .ready none with state := .busy })).heap[w.heap.size]? = some (.deferred (some [])) := (World.putObj_heap_other (by omega)).trans hd
   refine wpIn_mono (hbody _ k _ hk (hturn k W _ _ _ hi (by omega) (Nat.le_refl _) hl rfl rfl)) ?_
   rintro e a3 W3 ⟨rfl,hi3,hk3⟩
   have hl3 := hk3 _ _ (by omega) (Nat.le_refl _) hl2 rfl
   have hd3 := hk3 _ _ (Nat.le_refl _) (by omega) hd2 rfl
   have hr := run_endRound (P := P) none hl3
   refine ⟨_,_,hr,rfl,hturn _ _ _ _ _ hi3 (by omega) (Nat.le_refl _) hl3 rfl rfl,?_,(World.putObj_heap_other (by omega)).trans hd3⟩
   rw [World.putObj_heap_same (Array.getElem?_eq_some_iff.1 hl3).1,hrec]
   rfl
  ·rintro e W2 ⟨⟨v,rfl⟩,hi,hl,hd⟩
   refine ⟨none,W2.putObj (w.heap.size + 1) (.loop (rec .exhausted none)),?_,hdone _ (hturn _ _ _ _ (.loop (rec .exhausted none)) hi (by omega) (Nat.le_refl _) hl rfl rfl) ((World.putObj_heap_other (by omega)).trans hd)⟩
   have := run_endLoop (P := P) hl (by rw [hrec]; simp)
   rw [hrec] at this
   rw [hrec]
   exact this
section
variable {P : Program} {cx : Cx} {β : Bp} {σ : St} {a : Act} {w : World} {Q : Exit → St → Prop}
theorem Rel.turn {W : World} {b : Nat} {o o' : Go.Obj} (h : Rel cx β σ a W) (hb : W.heap[b]? = some o) (ho : Pk o = true) (h0 : cx.w0.heap.size ≤ b) (hd : ∀ d ∈ a.defers,∀ D,d.target = .collected D → D ≠ b) : Rel cx β σ a (W.putObj b o') := by
 have hother : ∀ j,j ≠ b → (W.putObj b o').heap[j]? = W.heap[j]? := fun j hj => World.putObj_heap_other hj
 have hsz : (W.putObj b o').heap.size = W.heap.size := by simp [World.putObj]
 have hS : ∀ j,An cx.Av β σ.objs W j → An cx.Av β σ.objs (W.putObj b o') j := fun j hj => ⟨by rw [hsz]; exact hj.1,hj.2.1,hj.2.2⟩
 have hsafe : An cx.Av β σ.objs W b := h.mark_safe h0 hb (fun _ _ _ e => by rw [e] at ho; simp [Pk] at ho) (fun _ _ e => by rw [e] at ho; simp [Pk] at ho) (fun _ _ _ _ e => by rw [e] at ho; simp [Pk] at ho)
 have hsame : Same (An cx.Av β σ.objs W) W (W.putObj b o') := by
  refine ⟨fun j q v _ hc => ?_,fun j es c _ hm => ?_⟩
  ·by_cases hj : j = b
   ·subst hj
    simp only [World.cell?,at_,hb] at hc
    cases o <;> simp [Pk] at ho <;> simp at hc
   ·rw [World.cell?_of_block (hother j hj)]
    exact hc
  ·by_cases hj : j = b
   ·subst hj
    rw [hb] at hm
    injection hm with hm
    subst hm
    simp [Pk] at ho
   ·rw [hother j hj]
    exact hm
 have hlive : ∀ k q j,σ.objs k = some q → q.body.live → (β k).block = some j → (W.putObj b o').heap[j]? = W.heap[j]? := by
  intro k q j hq hl hj
  exact hother j fun e => hsafe.2.2 k q hq hl (e ▸ hj)
 refine ⟨⟨h.nd.nodup,fun d hd' => ?_⟩,h.sz,fun t => (h.sl t).move hS hsame,fun k q hq => ?_,fun k q j hq hl hj => ?_,h.inj,?_,h.avo,h.avlt,h.mle,h.oloc⟩
 ·obtain ⟨D,e,g0,g1⟩ := h.nd.mark d hd'
  exact ⟨D,e,g0,(hother D (hd d hd' D (by rw [e]))).trans g1⟩
 ·by_cases hl : q.body.live
  ·exact (h.ob k q hq).move hS hsame hl fun j hj => hlive k q j hq hl hj
  ·cases hbd : q.body with
   | dead => trivial
   | box cs => simp [hbd,Body.live] at hl
   | row W n f => simp [hbd,Body.live] at hl
   | mp z has f => simp [hbd,Body.live] at hl
   | mq q => simp [hbd,Body.live] at hl
 ·have := h.blk k q j hq hl hj
  exact ⟨by rw [hsz]; exact this.1,this.2⟩
 ·have hk := h.kept
  refine ⟨hk.os,hk.tape,hk.output,by rw [hsz]; exact hk.size,fun j hj hno => ?_⟩
  rw [hother j (by omega)]
  exact hk.block j hj hno
def SlAt (W : World) (v : Value) (L : List Int) : Prop :=
 (L = [] ∧ v = .slice none 0 0) ∨ ∃ b o cap,v = .slice (some (at_ b o)) L.length cap ∧ L.length ≤ cap ∧ ∀ i,i < L.length → W.cell? (at_ b (o + i)) = some (.int .i64 (L.getD i 0))
def HdAt (b : Nat) (L : List Int) (W : World) : Prop := ∃ v,W.cell? (at_ b 0) = some v ∧ SlAt W v L
def Aee (P : Program) (gf : Nat) : Prop :=
 (∀ args w,(callFunc gf args).run P w = .ok (.enter gf args) w) ∧
 ∀ (b : Nat) (L : List Int),L.length < 2 ^ 62 → ∀ (l : Nat) (J : Nat → World → Prop) (W : World),(∀ k W1,J k W1 → HdAt b L W1) →
  (∀ k W1,k < L.length → J k W1 → YieldAt (fen none) 0 P l #[.int .i64 ((L.length - 1 - k : Nat) : Int),.int .i64 (L.getD (L.length - 1 - k) 0)] W1 fun e W' => e = .returned (.bool true) ∧ J (k + 1) W') → J 0 W →
  CallsIn (fen none) 0 P gf (#[.func (.yield l) #[] #[]] ++ #[.pointer (some (at_ b 0))]) W fun e W' => (∃ v,e = .returned v) ∧ J L.length W'
def Ro {S : Type} (step : Int → S → Option S) : List Int → S → Option S
 | [],s => some s
 | x :: r,s => match step x s with
  | some s' => Ro step r s'
  | none => none
theorem Afp {S : Type} {step : Int → S → Option S} : ∀ {l : List Int} {s res : S},Ro step l s = some res → ∃ st : Nat → S,st 0 = s ∧ st l.length = res ∧ ∀ k,k < l.length → step (l.getD k 0) (st k) = some (st (k + 1))
 | [],s,res,h => by
  simp [Ro] at h
  exact ⟨fun _ => s,rfl,h,fun k hk => by simp at hk⟩
 | x :: r,s,res,h => by
  simp only [Ro] at h
  split at h
  case h_2 => simp at h
  rename_i s' hs
  obtain ⟨st,h0,h1,h2⟩ := Afp h
  refine ⟨fun k => match k with | 0 => s | k + 1 => st k,rfl,h1,fun k hk => ?_⟩
  cases k with
  | zero => simpa [h0] using hs
  | succ k => simpa using h2 k (by simpa using hk)
def argsB (slots : Nat → MV) (nt : Nat) (ls : List Nat) (d : Nat) (x : Int) : List MV := (upN nt 0).map fun t => bif Nat.beq t d then .p (vi x) else bif elem t ls then slots t else .any
theorem HdAt.of_rel {k : Nat} {b : Nat} {L : List Int} {fl : Fl} {f : Nat → List PV} (h : Rel cx β σ a w) (hb : β k = .box b) (ho : σ.objs k = some ⟨0,.box [.p (.sl fl 1 L.length f)]⟩) (hf : ∀ i,i < L.length → f i = [vi (L.getD i 0)]) : HdAt b L w := by
 obtain ⟨b',cur,e,g0,g1,g2,g3⟩ := h.ob k _ ho
 rw [hb] at g0
 injection g0 with g0
 subst g0
 obtain ⟨u,q1,q2,q3⟩ := g3 0 _ rfl
 refine ⟨u,by simp [World.cell?,at_,g1,q1],?_⟩
 have hr := q3.inv_p
 generalize hn : L.length = n at hr
 cases hr with
 | slnil fl' W' f' h' => exact .inl ⟨List.length_eq_zero_iff.1 hn,rfl⟩
 | sl fl' W' n' cap bb o f' c hfl hcap hs hlen hc h1 hr =>
  refine .inr ⟨bb,o,cap,by rw [hn],by omega,fun i hi => ?_⟩
  have := hc i 0 (by omega) (by omega)
  rw [show o + (i * 1 + 0) = o + i by omega] at this
  rw [this]
  have h3 := hr i 0 (vi (L.getD i 0)) (by omega) (by rw [hf i hi]; rfl)
  have h4 : c i 0 = .int .i64 (L.getD i 0) := by
   generalize c i 0 = cc at h3
   cases h3
   rfl
  rw [h4]
theorem Rel.unmark (h : Rel cx β σ a w) (W : World) (D : Nat) (h0 : cx.w0.heap.size ≤ D) (hD : w.heap[D]? = some (.deferred (some []))) (hn : ∀ d ∈ a.defers,∀ E,d.target = .collected E → E ≠ D) :
  Rel cx β σ { a with defers := { target := .collected D,args := #[] } :: a.defers } w := by
 refine ⟨⟨?_,fun d hd => ?_⟩,h.sz,h.sl,h.ob,h.blk,h.inj,h.kept,h.avo,h.avlt,h.mle,h.oloc⟩
 ·rw [List.nodup_cons]
  exact ⟨fun hm => hn _ hm D rfl rfl,h.nd.nodup⟩
 ·rcases List.mem_cons.1 hd with e | hd
  ·exact ⟨D,e,h0,hD⟩
  ·exact h.nd.mark d hd
theorem DWP.rangeB {S : Type} {nt tg p1 p2 d aid : Nat} {ty : TypeId} {pos : String} {body : Code} {gf kb : Nat} {L : List Int} {fl : Fl} {f : Nat → List PV} (hrd : cx.rd = none) (hnt : cx.nt = nt) (hit : Aee P gf) (hlen : L.length < 2 ^ 62)
  (slots : Nat → MV) (objs : S → Ba) {step : Int → S → Option S} {s0 res : S} (hm : Ro step L.reverse s0 = some res) (hσ : σ = ⟨slots,objs s0⟩)
  (hg : slots tg = .fn gf [.ref kb 0 0]) (hkb : ∀ s,objs s kb = some ⟨0,.box [.p (.sl fl 1 L.length f)]⟩) (hf : ∀ i,i < L.length → f i = [vi (L.getD i 0)])
  (ks ls : List Nat) (hls : (!elem p1 ls && !elem p2 ls && !elem d ls && Nat.blt p1 nt && Nat.blt p2 nt && Nat.blt d nt && !Nat.beq p1 p2) = true)
  (hround : ∀ x s s',x ∈ L → step x s = some s' → ∃ args outs outs' y wo obl,Te (objs s) 0 ks (argsB slots nt ls d x) true (.p (.tup [])) outs' [] = some (args,outs,y,wo,obl) ∧ All obl ∧
   BSpec P nt body args outs outs' ∧ All (AcU outs outs') ∧ Cz (objs s) wo = objs s')
  (hQ : Q .normal ⟨slots,objs res⟩) :
  DWP P cx (.rangeFunc (.tmp tg) #[p1,p2] (.region aid #[⟨some d,.assign (.tmp p2),ty,pos,#[],none⟩] false) body) σ Q := by
 simp only [Bool.and_eq_true,Bool.not_eq_true'] at hls
 obtain ⟨⟨⟨⟨⟨⟨e1,e2⟩,e3⟩,e4⟩,e5⟩,e6⟩,e7⟩ := hls
 have l1 : p1 < nt := Nat.le_of_ble_eq_true e4
 have l2 : p2 < nt := Nat.le_of_ble_eq_true e5
 have l3 : d < nt := Nat.le_of_ble_eq_true e6
 have n12 : p1 ≠ p2 := fun e => by rw [e,Nat.beq_refl] at e7; simp at e7
 have nel : ∀ {t p : Nat},elem p ls = false → elem t ls = true → t ≠ p := fun h1 h2 e => by rw [e,h1] at h2; simp at h2
 intro β a w hrel
 subst hσ
 rw [hrd]
 have hsl := hrel.sl tg
 simp only [hg] at hsl
 obtain ⟨vs,hv,hl,hc⟩ : ∃ vs : Array Value,a.tmps.getD tg undef = .func (.func gf) #[] vs ∧ vs.size = 1 ∧ RelV β (objs s0) (An cx.Av β (objs s0) w) w (vs.getD 0 undef) (.ref kb 0 0) := by
  generalize a.tmps.getD tg undef = v at hsl
  cases hsl with
  | fn _ _ vs hl hr => exact ⟨vs,rfl,by simpa using hl,hr 0 _ rfl⟩
 obtain ⟨b,hbv,hbk⟩ := hc.inv_ref
 have hvs : vs = #[.pointer (some (at_ b 0))] := by
  apply Array.ext
  ·simp [hl]
  ·intro i h1 h2
   have : i = 0 := by omega
   subst this
   rw [Array.getD_eq_getD_getElem?,Array.getElem?_eq_getElem h1] at hbv
   simpa using hbv
 subst hvs
 have hfix : ∀ (β' : Bp) (s : S) (W : World),Rel cx β' ⟨slots,objs s⟩ a W → β' kb = .box b := by
  intro β' s W hr
  have h1 := hr.sl tg
  simp only [hg,hv] at h1
  cases h1 with
  | fn _ _ _ _ hr1 =>
   obtain ⟨b',q1,q2⟩ := (hr1 0 _ rfl).inv_ref
   have q3 := q2.get (hkb s)
   simp at q1
   have : b = b' := by
    have := q1
    simp [at_] at this
    exact this
   rw [q3,this]
 obtain ⟨st,st0,st1,st2⟩ := Afp hm
 rw [List.length_reverse] at st1 st2
 have hdef : ∀ d ∈ a.defers,∀ D,d.target = .collected D → D < w.heap.size := by
  intro d hd D hD
  obtain ⟨E,e,_,g1⟩ := hrel.nd.mark d hd
  rw [e] at hD
  injection hD with hD
  subst hD
  exact (Array.getElem?_eq_some_iff.1 g1).1
 have hw0 := hrel.kept.size
 have hassignR : ∀ (v1 v2 : Value) (K : Act → World → Prop) (l : Nat) (W : World),K { tmps := ((a.tmps.setIfInBounds p1 v1).setIfInBounds p2 v2).setIfInBounds d v2,defers := [] } W →
   (Code.region aid #[⟨some d,.assign (.tmp p2),ty,pos,#[],none⟩] false).wpIn (fen (some l)) 0 P (Exit.then K (fun _ _ _ => False)) { tmps := (a.tmps.setIfInBounds p1 v1).setIfInBounds p2 v2,defers := [] } W := by
  intro v1 v2 K l W hK
  refine wpIn_region ?_
  show wpOpsIn (fen (some l)) 0 P _ _ [0] _ W
  rw [wpOpsIn_cons]
  unfold wpOpIn
  simp only [List.size_toArray,List.length_cons,List.length_nil,List.getElem?_toArray,List.getElem?_cons_zero,Region.wanted,if_true]
  refine Re rfl ?_
  unfold Oper.wp
  simp only [execOp,Sem.run_bind,Sem.run_pure,Result.andThen_ok,Oper.upon]
  show Exit.then K (fun _ _ _ => False) .normal _ W
  have e : Act.eval { tmps := (a.tmps.setIfInBounds p1 v1).setIfInBounds p2 v2,defers := [] } (.tmp p2) = v2 := by
   show ((a.tmps.setIfInBounds p1 v1).setIfInBounds p2 v2).getD p2 undef = v2
   have : p2 < a.tmps.size := by rw [hrel.sz,hnt]; exact l2
   simp [Array.getD_eq_getD_getElem?,this]
  simp only [Exit.then,Act.put,e]
  exact hK
 refine Aff (gf := gf) (lb := #[.pointer (some (at_ b 0))]) hv hit.1 L.length (fun k => #[.int .i64 ((L.length - 1 - k : Nat) : Int),.int .i64 (L.getD (L.length - 1 - k) 0)]) (fun _ => rfl) (HdAt b L)
  (hit.2 b L hlen) (fun k W => ∃ β,Rel cx β ⟨slots,objs (st k)⟩ a W) (fun k W ⟨β',hr⟩ => HdAt.of_rel hr (hfix β' _ W hr) (hkb _) hf) ?_ ?_
  (fun k => { tmps := ((a.tmps.setIfInBounds p1 (.int .i64 ((L.length - 1 - k : Nat) : Int))).setIfInBounds p2 (.int .i64 (L.getD (L.length - 1 - k) 0))).setIfInBounds d (.int .i64 (L.getD (L.length - 1 - k) 0)),defers := [] }) ?_ ?_ ?_
 ·rintro k W j o o' ⟨β',hr⟩ h1 h2 h3 h4 h5
  exact ⟨β',hr.turn h3 h4 (by omega) fun d hd D hD => by have := hdef d hd D hD; omega⟩
 ·intro Lp
  obtain ⟨r1,_⟩ := hrel.free (w.alloc (.deferred (some []))) (.deferred (some [])) ⟨rfl,rfl,rfl,rfl⟩
  obtain ⟨r2,_⟩ := r1.free ((w.alloc (.deferred (some []))).alloc (.loop Lp)) (.loop Lp) ⟨rfl,rfl,rfl,rfl⟩
  exact ⟨β,by rw [st0]; exact r2⟩
 ·intro l k W K hk hK
  have := hassignR (.int .i64 ((L.length - 1 - k : Nat) : Int)) (.int .i64 (L.getD (L.length - 1 - k) 0)) K l W hK
  have e : ∀ v1 v2 : Value,(#[p1,p2].zip #[v1,v2]).foldl (fun t (x : Nat × Value) => match x with | (p,v) => t.setIfInBounds p v) a.tmps = (a.tmps.setIfInBounds p1 v1).setIfInBounds p2 v2 := fun v1 v2 => by simp
  rw [e]
  exact this
 ·rintro l k W hk ⟨β',hr⟩
  have hstep := st2 k hk
  have hix : L.reverse.getD k 0 = L.getD (L.length - 1 - k) 0 := by
   rw [List.getD_eq_getElem?_getD,List.getD_eq_getElem?_getD,List.getElem?_reverse hk]
  rw [hix] at hstep
  have hmem : L.getD (L.length - 1 - k) 0 ∈ L := by
   have hlt : L.length - 1 - k < L.length := by omega
   rw [List.getD_eq_getElem?_getD,List.getElem?_eq_getElem hlt]
   exact List.getElem_mem _
  generalize hxx : L.getD (L.length - 1 - k) 0 = x at hstep hmem
  obtain ⟨args,outs,outs',y,wo,obl,c1,c2,c3,c4,c5⟩ := hround x _ _ hmem hstep
  obtain ⟨tm,htm⟩ : ∃ tm,((a.tmps.setIfInBounds p1 (.int .i64 ((L.length - 1 - k : Nat) : Int))).setIfInBounds p2 (.int .i64 x)).setIfInBounds d (.int .i64 x) = tm := ⟨_,rfl⟩
  rw [htm]
  have htsz : tm.size = nt := by rw [← htm]; simp [hr.sz,hnt]
  have hlenA : (argsB slots nt ls d x).length = nt := by simp [argsB,Uq]
  obtain ⟨Av',β0,hpre,hpost⟩ := Agy (res := .p (.tup [])) (news := []) hr (fun _ _ h => h) (fun j hj => by simp at hj) (fun _ _ => rfl) c1 c2 (Afz _ _ c4) tm (by rw [htsz,hlenA]) (by
   intro t z hz
   have ht : t < nt := by rw [← hlenA]; exact (List.getElem?_eq_some_iff.1 hz).1
   simp only [argsB] at hz
   rw [List.getElem?_map,upN_get _ _ _ ht] at hz
   simp only [Nat.zero_add,Option.map_some,Option.some.injEq] at hz
   have hta : t < a.tmps.size := by rw [hr.sz,hnt]; exact ht
   cases hb1 : Nat.beq t d with
   | true =>
    rw [hb1,cond_true] at hz
    subst hz
    have := Nat.eq_of_beq_eq_true hb1
    subst this
    have e : tm.getD t undef = .int .i64 x := by rw [← htm]; simp [Array.getD_eq_getD_getElem?,hta]
    rw [e]
    exact .mk_v rfl
   | false =>
    rw [hb1,cond_false] at hz
    cases hb2 : elem t ls with
    | false => rw [hb2,cond_false] at hz; subst hz; exact .any _
    | true =>
     rw [hb2,cond_true] at hz
     subst hz
     have e : tm.getD t undef = a.tmps.getD t undef := by
      rw [← htm]
      simp only [Array.getD_eq_getD_getElem?]
      rw [Array.getElem?_setIfInBounds_ne (Ne.symm (nel e3 hb2)),Array.getElem?_setIfInBounds_ne (Ne.symm (nel e2 hb2)),Array.getElem?_setIfInBounds_ne (Ne.symm (nel e1 hb2))]
     rw [e]
     exact hr.sl t)
  refine wpIn_mono (c3 l W Av' β0 tm htsz hpre) ?_
  rintro e _ W' ⟨rfl,v,β1,hp⟩
  obtain ⟨β2,q1,_,q3⟩ := hpost W' v β1 hp
  rw [c5] at q1
  refine ⟨rfl,⟨β2,q1⟩,fun j o h1 h2 h3 h4 => ?_⟩
  rw [q3 j (hr.mark_safe (by omega) h3 (fun _ _ _ e => by rw [e] at h4; simp [Pk] at h4) (fun _ _ e => by rw [e] at h4; simp [Pk] at h4) (fun _ _ _ _ e => by rw [e] at h4; simp [Pk] at h4))]
  exact h3
 ·rintro W ⟨β',hr⟩ hD
  rw [st1] at hr
  exact ⟨β',_,hQ,hr.unmark W _ hw0 hD fun d hd E hE => by have := hdef d hd E hE; omega⟩
def setA (k : Nat) (o : Obj) : List (Nat × Obj) → List (Nat × Obj)
 | [] => []
 | (j,q) :: r => bif Nat.beq j k then (j,o) :: r else (j,q) :: setA k o r
def setAs : List (Nat × Obj) → List (Nat × Obj) → List (Nat × Obj)
 | ob,[] => ob
 | ob,(k,o) :: r => setAs (setA k o ob) r
theorem AfB (k : Nat) (o : Obj) : ∀ ob : List (Nat × Obj),Bx (setA k o ob) = Bx ob
 | [] => rfl
 | (j,q) :: r => by
  simp only [setA]
  cases Nat.beq j k with
  | true => rfl
  | false => simp [Bx,AfB k o r]
theorem Aeq {k : Nat} {o : Obj} : ∀ {ob : List (Nat × Obj)},elem k (Bx ob) = true → assoc (setA k o ob) = Bt (assoc ob) k o
 | [],h => by simp [Bx,elem] at h
 | (j,q) :: r,h => by
  funext i
  simp only [setA]
  cases hb : Nat.beq j k with
  | true =>
   have := Nat.eq_of_beq_eq_true hb
   subst this
   simp only [cond_true,assoc,Bt]
   cases Nat.beq i j <;> rfl
  | false =>
   simp only [cond_false,assoc,Bt]
   have h' : elem k (Bx r) = true := by
    simp only [Bx,elem,Bool.or_eq_true] at h
    rcases h with h | h
    ·have := Nat.eq_of_beq_eq_true h
     subst this
     rw [Nat.beq_refl] at hb
     simp at hb
    ·exact h
   have ih := congrFun (Aeq (o := o) h') i
   simp only [Bt] at ih
   rw [ih]
   cases h1 : Nat.beq i j with
   | true =>
    have := Nat.eq_of_beq_eq_true h1
    subst this
    rw [hb]
    rfl
   | false => rfl
theorem Adl : ∀ {wo : List (Nat × Obj)} {ob : List (Nat × Obj)},(Bx wo).all (fun k => elem k (Bx ob)) = true → Cz (assoc ob) wo = assoc (setAs ob wo)
 | [],ob,_ => rfl
 | (k,o) :: r,ob,h => by
  simp only [Bx,List.all_cons,Bool.and_eq_true] at h
  simp only [Cz,setAs]
  rw [← Aeq h.1]
  exact Adl (by rw [AfB]; exact h.2)
def roundE (sl : List (Nat × MV)) (ob : List (Nat × Obj)) (nt : Nat) (ls : List Nat) (d : Nat) (x : Int) (ks : List Nat) (outs' : List Body) : Option (List MV × List Body × List Prop × List (Nat × Obj)) :=
 match Te (assoc ob) 0 ks (argsB (fun t => (assoc sl t).getD .any) nt ls d x) true (.p (.tup [])) outs' [] with
 | some (args,outs,_,wo,obl) => bif (Bx wo).all (fun k => elem k (Bx ob)) then some (args,outs,obl ++ AcU outs outs',setAs ob wo) else none
 | none => none
theorem DW.rangeB {S : Type} {nt tg p1 p2 d aid : Nat} {ty : TypeId} {pos : String} {body : Code} {gf kb : Nat} {L : List Int} {r : List Code} {Q : Exit → St → Prop} (hrd : cx.rd = none) (hnt : cx.nt = nt) (hit : Aee P gf) (hlen : L.length < 2 ^ 62)
  (sl : List (Nat × MV)) (obs : S → List (Nat × Obj)) {step : Int → S → Option S} {s0 res : S} (hm : Ro step L.reverse s0 = some res) (ks ls : List Nat)
  (hkb : ∀ s,assoc (obs s) kb = some ⟨0,.box [.p (Lo 1 (fun x => [vi x]) 0 L)]⟩)
  (hround : ∀ x s s',x ∈ L → step x s = some s' → ∃ args outs outs' obl,roundE sl (obs s) nt ls d x ks outs' = some (args,outs,obl,obs s') ∧ All obl ∧ BSpec P nt body args outs outs')
  (hQ : DW P cx r (Ae sl (obs res)) Q)
  (hg : assoc sl tg = some (.fn gf [.ref kb 0 0]) := by kernel_rfl) (hls : (!elem p1 ls && !elem p2 ls && !elem d ls && Nat.blt p1 nt && Nat.blt p2 nt && Nat.blt d nt && !Nat.beq p1 p2) = true := by kernel_rfl) (hσ : σ = Ae sl (obs s0) := by rfl) :
  DW P cx (.rangeFunc (.tmp tg) #[p1,p2] (.region aid #[⟨some d,.assign (.tmp p2),ty,pos,#[],none⟩] false) body :: r) σ Q := by
 refine DWP.rangeB (Q := KQ P cx r Q) (kb := kb) (fl := .unk) (f := elems (fun x => [vi x]) 0 L) hrd hnt hit hlen (fun t => (assoc sl t).getD .any) (fun s => assoc (obs s)) hm hσ (by rw [hg]; rfl) hkb (fun _ _ => rfl) ks ls hls ?_ hQ
 intro x s s' hx hs
 obtain ⟨args,outs,outs',obl,h1,h2,h3⟩ := hround x s s' hx hs
 unfold roundE at h1
 split at h1
 case h_2 => simp at h1
 rename_i args0 outs0 y wo obl0 hce
 cases hb : (Bx wo).all (fun k => elem k (Bx (obs s))) with
 | false => rw [hb] at h1; simp at h1
 | true =>
  rw [hb,cond_true] at h1
  simp only [Option.some.injEq,Prod.mk.injEq] at h1
  obtain ⟨rfl,rfl,rfl,h4⟩ := h1
  rw [All_append] at h2
  exact ⟨_,_,outs',y,wo,obl0,hce,h2.1,h3,h2.2,by rw [Adl hb,h4]⟩
def subC : List Nat → Code → Option Code
 | [],c => some c
 | 0 :: r,.seq x _ => subC r x
 | 1 :: r,.seq _ y => subC r y
 | 0 :: r,.block _ c => subC r c
 | 0 :: r,.cond _ x _ => subC r x
 | 1 :: r,.cond _ _ y => subC r y
 | 0 :: r,.loop c => subC r c
 | 0 :: r,.rangeFunc _ _ _ b => subC r b
 | _,_ => none
end
end Go.Dm

/- Models of Go types and functions, printed by a program. -/
namespace Go.Dm
set_option linter.unusedVariables false
def Mb (p0 : List Int) : Option (List Int) := (some p0)
def Pe (p0 : List Ac) (p1 : List Int) (p2 : Int) : Option ((List Ac) × (List Int)) := (Option.bind (Ll p0 p2) fun r1 => (Option.bind (Nv r1.mems p1) fun r2 => (some (p0,r2))))
def Ps (p0 : Ab) (p1 : List Ac) (p2 : List Int) (p3 : Int) : Option (List Int) := (Option.bind (Ij p0 p1 p2 8) fun r1 => (if (!r1) then (some []) else (Option.bind (Lv p0 p3) fun r3 => (if (((r3.length : Nat) : Int) == 0) then (some []) else (Option.bind (Cc p2) fun r5 => (if 0 ≤ (w64 (((r3.length : Nat) : Int) - 1)) ∧ (w64 (((r3.length : Nat) : Int) - 1)) ≤ ((r3.length : Nat) : Int) then (Option.bind (Mb (r3.take (Int.toNat (w64 (((r3.length : Nat) : Int) - 1))))) fun r9 => (if r9.length < 4611686018427387904 then (Option.bind (Ro (fun (x : Int) (s : (List Ac) × (List Int)) => (Pe s.1 s.2 x)) (List.reverse r9) (p1,r5)) fun r10 => (some r10.2)) else none)) else none))))))
noncomputable def Yh (r3 : plan) (k1 : Nat) (x1 : Ag) (s1 : List (List Int)) (n1 : (List (List Int)) → Option (List (List Int))) : Option (List (List Int)) := (Option.bind (Cc (r3.sets.get x1.id)) fun r15 => (if s1.length + 1 ≤ 1073741824 then (n1 (s1 ++ [r15])) else none))
noncomputable def Aci (s1 : List (List Int)) : Option (List (List Int)) := (some s1)
noncomputable def Tv (p0 : Ab) (p1 : List Ac) (p2 : List Int) : Option (List (List Int)) := (Option.bind (Ij p0 p1 p2 16) fun r1 => (if (!r1) then (some []) else (Option.bind (Qo p0 p1 p2) fun r3 => (if p0.nodes.length ≤ 9223372036854775807 then Bu (Yh r3) Aci p0.nodes 0 [] else none))))
noncomputable def Gg (n4 : Unit → Option Bool) (y28 : Bool) : Option Bool := (if y28 then (some false) else (n4 ()))
noncomputable def Gf (r5 : Ab × Aj) (r10 : List (List Int)) (r12 : List Int) (k1 : Nat) (x1 : Ag) (k4 : Nat) (x4 : Ag) (n4 : Unit → Option Bool) (y27 : Bool) : Option Bool := (if y27 then (some false) else (Option.bind (Kp r12 x1.id) fun r298 => (if r298 then (Option.bind (Qi r5.1 x1.id) fun r300 => (Option.bind (Kp r300 x4.id) fun r301 => (if (!r301) then (if k1 < r10.length then (if k1 < r10.length then (if k4 < r10.length then (if k4 < r10.length then (Option.bind (Np (r10.getD k1 []) (r10.getD k4 [])) fun r307 => ((Gg n4) (decide (((r307.length : Nat) : Int) > 0)))) else none) else none) else none) else none) else ((Gg n4) false)))) else ((Gg n4) false))))
noncomputable def Pw (r5 : Ab × Aj) (r10 : List (List Int)) (r12 : List Int) (k1 : Nat) (x1 : Ag) (k4 : Nat) (x4 : Ag) (s4 : Unit) (n4 : Unit → Option Bool) : Option Bool := (if (x4.parent == x1.id) then (Option.bind (Kp r12 x4.id) fun r290 => (if (!r290) then (if k4 < r10.length then (if k4 < r10.length then (if k1 < r10.length then (if k1 < r10.length then (Option.bind (Mv (r10.getD k4 []) (r10.getD k1 [])) fun r296 => ((Gf r5 r10 r12 k1 x1 k4 x4 n4) (!r296))) else none) else none) else none) else none) else ((Gf r5 r10 r12 k1 x1 k4 x4 n4) false))) else ((Gf r5 r10 r12 k1 x1 k4 x4 n4) false))
noncomputable def Ge (n1 : Unit → Option Bool) (y29 : Bool) : Option Bool := (if y29 then (some false) else (n1 ()))
noncomputable def Ma (r5 : Ab × Aj) (r6 : (List Ac) × Aj) (x1 : Ag) (n1 : Unit → Option Bool) (s4 : Unit) : Option Bool := (Option.bind (Ps r5.1 r6.1 [0,1,3] x1.id) fun r309 => (if (((r309.length : Nat) : Int) == 0) then ((Ge n1) true) else (if (x1.id != 1) then (Option.bind (Ps r5.1 r6.1 [0,1,3] x1.parent) fun r312 => (Option.bind (Mv r309 r312) fun r313 => ((Ge n1) (!r313)))) else ((Ge n1) false))))
noncomputable def Gk (r5 : Ab × Aj) (r6 : (List Ac) × Aj) (r10 : List (List Int)) (r12 : List Int) (k1 : Nat) (x1 : Ag) (n1 : Unit → Option Bool) (y20 : Bool) : Option Bool := (if y20 then (some false) else (if r5.1.nodes.length ≤ 9223372036854775807 then Bu (Pw r5 r10 r12 k1 x1) (Ma r5 r6 x1 n1) r5.1.nodes 0 () else none))
noncomputable def Py (r5 : Ab × Aj) (r6 : (List Ac) × Aj) (r7 : (List Int) × Aj) (r10 : List (List Int)) (r12 : List Int) (k1 : Nat) (x1 : Ag) (s1 : Unit) (n1 : Unit → Option Bool) : Option Bool := (if k1 < r10.length then (if k1 < r10.length then (if ((((r10.getD k1 []).length : Nat) : Int) == 0) then ((Gk r5 r6 r10 r12 k1 x1 n1) true) else (if k1 < r10.length then (if k1 < r10.length then (Option.bind (Mv (r10.getD k1 []) r7.1) fun r221 => (if (!r221) then ((Gk r5 r6 r10 r12 k1 x1 n1) true) else (if k1 < r10.length then (if k1 < r10.length then (Option.bind (Fy r5.1 r6.1 r7.1 x1.id) fun r225 => (Option.bind (Ir (r10.getD k1 []) r225) fun r226 => ((Gk r5 r6 r10 r12 k1 x1 n1) (!r226)))) else none) else none))) else none) else none)) else none) else none)
noncomputable def Uy (s1 : Unit) : Option Bool := (Option.bind Pb fun r315 => (some r315))
noncomputable def Kx (p0 : List Int) : Option Bool := (Option.bind (Xr p0) fun r1 => (if (!r1) then (Option.bind Pb fun r3 => (some r3)) else (Option.bind (AbP p0) fun r4 => (Option.bind (Ny r4 8) fun r5 => (Option.bind (Kv r5.2 r5.1) fun r6 => (Option.bind (Lq r6.2 6) fun r7 => (Option.bind (Tv r5.1 r6.1 r7.1) fun r10 => (if (((r10.length : Nat) : Int) != ((r5.1.nodes.length : Nat) : Int)) then (some false) else (Option.bind (Jh r5.1 r6.1 r7.1) fun r12 => (if r5.1.nodes.length ≤ 9223372036854775807 then Bu (Py r5 r6 r7 r10 r12) Uy r5.1.nodes 0 () else none))))))))))
end Go.Dm

/- Plain theory of processor sets, part 8: memory nodes; all sets; what lies apart. -/
namespace Go.Dm
set_option linter.unusedVariables false
set_option linter.unusedSimpArgs false
variable {t : Ab} {l : List Ac} {on : List Int}
theorem Afw {S : Type} {step : Int → S → Option S} : ∀ (a b : List Int) (s : S),Ro step (a ++ b) s = (Ro step a s).bind (fun s' => Ro step b s')
 | [],b,s => rfl
 | x :: a,b,s => by
  simp only [List.cons_append,Ro]
  cases step x s with
  | none => rfl
  | some s' => exact Afw a b s'
def Abb (l : List Ac) (on : List Int) : List Int → List Int
 | [] => on
 | [_] => on
 | c :: p :: r => Mi (cfg l c).mems (Abb l on (p :: r))
def Xl (t : Ab) (l : List Ac) (on : List Int) (g : Int) : List Int := Abb l on (upT t g)
structure UseM (t : Ab) (l : List Ac) (on : List Int) : Prop where
 fits : FitsS t l
 pos : 0 < on.length
 set : okSet 8 on
theorem AcI (u : UseM t l on) : ∀ L : List Int,Asc (Abb l on L) ∧ (∀ y ∈ Abb l on L,y ∈ on) ∧ 0 < (Abb l on L).length
 | [] => ⟨u.set.1,fun y h => h,u.pos⟩
 | [_] => ⟨u.set.1,fun y h => h,u.pos⟩
 | c :: p :: r => by
  obtain ⟨h1,h2,h3⟩ := AcI u (p :: r)
  exact ⟨Afu (u.fits.cfg c).small.2.2.2 h1,fun y hy => h2 y (Aan y hy),Afy h3⟩
theorem okSet_sub {n : Int} {A B : List Int} (hb : okSet n B) (ha : Asc A) (h : ∀ y ∈ A,y ∈ B) : okSet n A := ⟨ha,fun y hy => hb.2 y (h y hy)⟩
theorem Aef (u : UseM t l on) (L : List Int) : (Abb l on L).length ≤ 8 := by
 obtain ⟨h1,h2,_⟩ := AcI u L
 have := (okSet_sub u.set h1 h2).len (by omega)
 omega
theorem AgE (u : UseM t l on) (hs : ∀ x ∈ l,En x.settings) : ∀ (L : List Int),L ≠ [] →
  Ro (fun (x : Int) (s : (List Ac) × (List Int)) => (Pe s.1 s.2 x)) (List.reverse L.dropLast) (l,on) = some (l,Abb l on L)
 | [],h => absurd rfl h
 | [_],_ => rfl
 | c :: p :: r,_ => by
  have ih := AgE u hs (p :: r) (by simp)
  have hl := u.fits.len
  have hn := u.fits.wf.len2
  rw [List.dropLast_cons_of_ne_nil (by simp),List.reverse_cons,Afw,ih,Option.bind_some]
  have h8 := Aef u (p :: r)
  obtain ⟨h1,_⟩ := AcI u (p :: r)
  simp only [Ro,Pe]
  rw [Ur (by omega) hs,Option.bind_some,Agi (u.fits.cfg c).small.2.2.2 (by have := (u.fits.cfg c).small.2.1; omega) (by omega),Option.bind_some]
  rfl
theorem Mems_t (u : UseM t l on) (hs : ∀ x ∈ l,En x.settings) (g : Int) : Ps t l on g = some (if Di t g then Xl t l on g else []) := by
 have w := u.fits.wf
 have hl := u.fits.len
 have hn := w.len2
 have h8 := u.set.len (by omega)
 obtain ⟨b,h1,h2⟩ := AeH (t := t) (l := l) (on := on) (n := 8) w.p.names (by omega) (by omega) hs (by omega)
 unfold Ps
 rw [h1,h2.mpr ⟨u.fits,u.pos,u.set⟩,Option.bind_some,if_neg (by simp),Acd w,Option.bind_some]
 by_cases hg : Di t g = true
 ·obtain ⟨r,er⟩ := Vj w hg
  have hul : (upT t g).length ≤ 1000 := by
   have := Xq t.nodes.reverse g
   rw [List.length_reverse] at this
   unfold upT
   omega
  have hp : 0 < (upT t g).length := by rw [er]; simp
  rw [if_pos hg,if_neg (by simp; rw [er]; simp),Oi (by omega),Option.bind_some]
  have e1 : w64 (((upT t g).length : Int) - 1) = (((upT t g).length - 1 : Nat) : Int) := by
   rw [As (by omega) (by omega)]
   omega
  rw [e1,if_pos (by omega)]
  unfold Mb
  rw [Option.bind_some,if_pos (by simp; omega)]
  have e2 : (upT t g).take (Int.toNat (((upT t g).length - 1 : Nat) : Int)) = (upT t g).dropLast := by
   rw [Int.toNat_natCast,List.dropLast_eq_take]
  rw [e2,AgE u hs (upT t g) (by rw [er]; simp),Option.bind_some]
  rfl
 ·have e : upT t g = [] := by
   cases hu : upT t g with
   | nil => rfl
   | cons a r =>
    obtain ⟨n,hn,he⟩ := Gq (t := t) (x := g) (k := a) (by rw [hu]; simp)
    exact absurd (hasN_iff.mpr ⟨n,hn,he⟩) hg
  rw [if_neg hg,e,if_pos (by simp)]
theorem mems_kid (u : UseM t l on) {g c : Int} (hg : Di t g = true) (hc : c ∈ Ay t g) : Xl t l on c = Mi (cfg l c).mems (Xl t l on g) := by
 obtain ⟨e1,e2,e3⟩ := Rz u.fits.wf hc
 obtain ⟨r,er⟩ := Vj u.fits.wf hg
 unfold Xl
 rw [e1,er]
 rfl
theorem All_t (u : UseS t l on) (hs : ∀ x ∈ l,En x.settings) : Tv t l on = some (t.nodes.map (fun x => Hi t l on x.id)) := by
 obtain ⟨p,h1,h2,_⟩ := of_t u hs
 have hn := u.w.len2
 unfold Tv
 rw [AdK u hs,Option.bind_some,if_neg (by simp),h1,Option.bind_some,if_pos (by omega)]
 apply Ok.eq
 refine Ok.range (fun pre s => s = pre.map (fun x => Hi t l on x.id)) rfl ?_ ?_
 ·intro pre x post s n he hi hm
  have hx : x ∈ t.nodes := by rw [he]; simp
  have hpl : pre.length < t.nodes.length := by rw [he]; simp
  have hh : Di t x.id = true := hasN_iff.mpr ⟨x,hx,rfl⟩
  unfold Yh
  rw [h2 x.id,if_pos hh,Oi (by have := (Vc u hh).2.2.2; omega),Option.bind_some]
  refine Ok.guard (by rw [hi]; simp; omega) (hm _ (by rw [hi]; simp))
 ·intro s hi
  exact Ok.of_eq rfl hi
theorem own_kid (u : UseS t l on) {x : Ag} (hx : x ∈ t.nodes) (h1 : x.id ≠ 1) (ha : Db t l on x.id = false) : ∀ y ∈ Hi t l on x.id,y ∈ Hi t l on x.parent := by
 have w := u.w
 have hg := Abx w hx h1
 have hk : x.id ∈ Ay t x.parent := kids_iff.mpr ⟨x,hx,rfl,rfl⟩
 obtain ⟨e1,e2⟩ := Oh (l := l) (on := on) w hg hk
 rw [ha] at e1
 rw [if_neg (by rw [← e1]; simp)] at e2
 intro y hy
 have := (Vc u (hasN_iff.mpr ⟨x,hx,rfl⟩)).2.1 y hy
 rw [e2] at this
 exact Aan y this
theorem own_near (u : UseS t l on) : ∀ x ∈ t.nodes,∃ a,a ∈ upT t x.id ∧ Di t a = true ∧ Fc t l on a = true ∧ ∀ y ∈ Hi t l on x.id,y ∈ Hi t l on a := by
 have w := u.w
 refine w.induct fun x hx ih => ?_
 have hh : Di t x.id = true := hasN_iff.mpr ⟨x,hx,rfl⟩
 by_cases ha : Fc t l on x.id = true
 ·exact ⟨x.id,by obtain ⟨r,er⟩ := Vj w hh; rw [er]; simp,hh,ha,fun y hy => hy⟩
 ·have h1 : x.id ≠ 1 := fun e => ha (by simp [Fc,e])
  have hal : Db t l on x.id = false := by
   cases hq : Db t l on x.id with
   | false => rfl
   | true => exact absurd (by simp [Fc,hq]) ha
  obtain ⟨p,hp,hpe⟩ := hasN_iff.mp (Abx w hx h1)
  obtain ⟨a,a1,a2,a3,a4⟩ := ih p hp hpe
  rw [hpe] at a1 a4
  exact ⟨a,by rw [w.up hx]; simp [a1],a2,a3,fun y hy => a4 y (own_kid u hx h1 hal y hy)⟩
theorem own_apart (u : UseS t l on) {g : Int} (hg : Di t g = true) (ha : Fc t l on g = true) {x : Ag} (hx : x ∈ t.nodes) (hn : g ∉ upT t x.id) : ∀ y ∈ Hi t l on g,y ∉ Hi t l on x.id := by
 intro y hy hy'
 obtain ⟨a,a1,a2,a3,a4⟩ := own_near u x hx
 have := AhM u hg a2 ha a3 hy (a4 y hy')
 exact hn (this ▸ a1)
end Go.Dm

/- The law CpusetSound, on the model. -/
namespace Go.Dm
set_option linter.unusedVariables false
set_option linter.unusedSimpArgs false
variable {t : Ab} {l : List Ac} {on : List Int}
theorem has_sub (w : WfT t) (g x : Int) : ∃ L,Qi t g = some L ∧ Kp L x = some ((upT t x).contains g) ∧ L.length ≤ 1000000 := by
 obtain ⟨L,e,hnd,hm⟩ := Aex w g
 have hl := Ace hnd (fun a ha => (hm a).mp ha)
 have hn := w.len2
 refine ⟨L,e,?_,by omega⟩
 rw [Aaw _ _ (by omega)]
 congr 1
 rw [Bool.eq_iff_iff,List.contains_iff_mem,List.contains_iff_mem,hm]
theorem AeZ (l0 : List Int) : Ok (Kx l0) (· = true) := by
 have sane : ∀ {f : Bool → Option Bool},f true = some true → Ok (Option.bind Pb f) (· = true) := fun h => Ok.step Ags (Ok.of_eq h rfl)
 unfold Kx Xr
 refine Ok.step rfl ?_
 refine Ok.ite (fun _ => sane rfl) fun c => ?_
 have hl : l0.length ≤ 600 := by
  have : ((l0.length : Nat) : Int) ≤ 600 := by simpa using c
  omega
 refine Ok.step (a := { l := l0,atF := 0 }) rfl ?_
 refine Ok.bind (Tree_ok (dice_roll hl) 8 (by omega) (by omega)) fun r5 ⟨w,hd⟩ => ?_
 have hn := w.len2
 refine Ok.bind (AhC hd w) fun r6 ⟨f,hs,hd⟩ => ?_
 refine Ok.bind (Online_ok hd (n := 6) (by omega) (by omega)) fun r7 ⟨ho,hpos,hd⟩ => ?_
 have h16 : okSet 16 r7.1 := Abf ho (by omega)
 have hol := ho.len (by omega)
 have u : UseS r5.1 r6.1 r7.1 := ⟨f,hpos,h16⟩
 have um : UseM r5.1 r6.1 [0,1,3] := ⟨f,by simp,by
  refine ⟨?_,fun x hx => ?_⟩
  ·simp [Asc]
  ·simp only [List.mem_cons,List.not_mem_nil,or_false] at hx
   omega⟩
 have hal := Abe (t := r5.1) (l := r6.1) (on := r7.1)
 have hL := f.len
 rw [All_t u hs,Option.bind_some,if_neg (by simp),Acc u hs,Option.bind_some]
 refine Ok.guard (by omega) ?_
 generalize hr10 : r5.1.nodes.map (fun x => Hi r5.1 r6.1 r7.1 x.id) = r10
 have h10 : r10.length = r5.1.nodes.length := by rw [← hr10]; simp
 have at10 : ∀ (pre : List Ag) x post,r5.1.nodes = pre ++ x :: post → r10.getD pre.length [] = Hi r5.1 r6.1 r7.1 x.id := by
  intro pre x post he
  rw [← hr10,he,List.map_append,List.map_cons]
  have : pre.length = (pre.map (fun x => Hi r5.1 r6.1 r7.1 x.id)).length := by simp
  rw [this]
  exact Yu
 refine Ok.range (fun _ _ => True) trivial ?_ ?_
 ·intro pre x post s n he _ hm
  have hx : x ∈ r5.1.nodes := by rw [he]; simp
  have hh : Di r5.1 x.id = true := hasN_iff.mpr ⟨x,hx,rfl⟩
  have hk1 : pre.length < r10.length := by rw [h10,he]; simp
  have hat := at10 pre x post he
  obtain ⟨o1,o2,o3,o4⟩ := Vc u hh
  obtain ⟨s1,s2,s3,s4⟩ := Wl u hh
  have hfin : Ok (Ma r5 r6 x n ()) (· = true) := by
   unfold Ma
   rw [Mems_t um hs,Option.bind_some,if_pos hh]
   obtain ⟨m1,m2,m3⟩ := AcI um (upT r5.1 x.id)
   have m4 := Aef um (upT r5.1 x.id)
   have hJ : Ok (Ge n false) (· = true) := by
    unfold Ge
    rw [if_neg (by simp)]
    exact hm () trivial
   have hm3 : 0 < (Xl r5.1 r6.1 [0,1,3] x.id).length := m3
   have hm4 : (Xl r5.1 r6.1 [0,1,3] x.id).length ≤ 8 := m4
   rw [if_neg (by simp only [beq_iff_eq]; omega)]
   refine Ok.ite (fun c1 => ?_) fun _ => hJ
   have c1 : x.id ≠ 1 := by simpa using c1
   have hpar := Abx w hx c1
   have hk : x.id ∈ Ay r5.1 x.parent := kids_iff.mpr ⟨x,hx,rfl,rfl⟩
   have q4 := Aef um (upT r5.1 x.parent)
   have hq4 : (Xl r5.1 r6.1 [0,1,3] x.parent).length ≤ 8 := q4
   have hm1 : Asc (Xl r5.1 r6.1 [0,1,3] x.id) := m1
   rw [Mems_t um hs,Option.bind_some,if_pos hpar,Wu hm1 (by omega) (by omega) (fun y hy => by
    have hy : y ∈ Xl r5.1 r6.1 [0,1,3] x.id := hy
    rw [mems_kid um hpar hk] at hy
    exact Aan y hy),Option.bind_some]
   exact hJ
  have hJ20 : Ok (Gk r5 r6 r10 (Jo r5.1 r6.1 r7.1) pre.length x n false) (· = true) := by
   unfold Gk
   rw [if_neg (by simp)]
   refine Ok.guard (by omega) ?_
   refine Ok.range (fun _ _ => True) trivial ?_ (fun _ _ => hfin)
   intro pre2 y post2 s2' n2 he2 _ hm2
   have hy : y ∈ r5.1.nodes := by rw [he2]; simp
   have hhy : Di r5.1 y.id = true := hasN_iff.mpr ⟨y,hy,rfl⟩
   have hk2 : pre2.length < r10.length := by rw [h10,he2]; simp
   have hat2 := at10 pre2 y post2 he2
   obtain ⟨b1,b2,b3,b4⟩ := Vc u hhy
   have hJ28 : Ok (Gg n2 false) (· = true) := by
    unfold Gg
    rw [if_neg (by simp)]
    exact hm2 () trivial
   have hJ27 : Ok (Gf r5 r10 (Jo r5.1 r6.1 r7.1) pre.length x pre2.length y n2 false) (· = true) := by
    unfold Gf
    rw [if_neg (by simp),Aaw _ _ (by omega),Option.bind_some]
    refine Ok.ite (fun c1 => ?_) fun _ => hJ28
    obtain ⟨SL,e1,e2,_⟩ := has_sub w x.id y.id
    rw [e1,Option.bind_some,e2,Option.bind_some]
    refine Ok.ite (fun c2 => ?_) fun _ => hJ28
    refine Ok.guard hk1 (Ok.guard hk1 (Ok.guard hk2 (Ok.guard hk2 ?_)))
    rw [hat,hat2,Adj o1 (by omega) (by omega),Option.bind_some]
    obtain ⟨_,_,c3⟩ := aloneL_mem.mp (List.contains_iff_mem.mp c1)
    have hnil : Ph (Hi r5.1 r6.1 r7.1 x.id) (Hi r5.1 r6.1 r7.1 y.id) = [] := by
     unfold Ph
     rw [List.filter_eq_nil_iff]
     intro z hz
     have := own_apart u hh (by simp [Fc,c3]) hy (by simpa using c2) z hz
     simpa using this
    rw [hnil]
    exact hJ28
   unfold Pw
   refine Ok.ite (fun c1 => ?_) fun _ => hJ27
   have c1 : y.parent = x.id := by simpa using c1
   rw [Aaw _ _ (by omega),Option.bind_some]
   refine Ok.ite (fun c2 => ?_) fun _ => hJ27
   refine Ok.guard hk2 (Ok.guard hk2 (Ok.guard hk1 (Ok.guard hk1 ?_)))
   have hy1 : y.id ≠ 1 := by
    intro e
    have h1 := w.par_lt hy
    rcases w.p.par x hx with ⟨h2,_⟩ | ⟨h2,_⟩
    ·omega
    ·have := w.par_lt hx
     omega
   have hay : Db r5.1 r6.1 r7.1 y.id = false := by
    cases hq : Db r5.1 r6.1 r7.1 y.id with
    | false => rfl
    | true =>
     have : y.id ∈ Jo r5.1 r6.1 r7.1 := aloneL_mem.mpr ⟨hhy,hy1,hq⟩
     simp [this] at c2
   rw [hat,hat2,Wu b1 (by omega) (by omega) (fun z hz => by rw [← c1]; exact own_kid u hy hy1 hay z hz),Option.bind_some]
   exact hJ27
  unfold Py
  refine Ok.guard hk1 (Ok.guard hk1 ?_)
  rw [hat,if_neg (by simp only [beq_iff_eq]; omega)]
  refine Ok.guard hk1 (Ok.guard hk1 ?_)
  rw [Wu o1 (by omega) (by omega) (fun y hy => s2 y (o2 y hy)),Option.bind_some,if_neg (by simp)]
  refine Ok.guard hk1 (Ok.guard hk1 ?_)
  rw [Cpus_t u hs,Option.bind_some,if_pos hh,AeM _ (by omega),Option.bind_some]
  exact hJ20
 ·intro s _
  exact sane rfl
theorem AdV (l : List Int) (_ : ∀ n ∈ l,-9223372036854775808 ≤ n ∧ n ≤ 9223372036854775807) : Kx l = some true := (AeZ l).eq
end Go.Dm

/- Models of Go types and functions, printed by a program. -/
namespace Go.Dm
set_option linter.unusedVariables false

end Go.Dm


/- The iterator that slices.Backward hands back. -/
namespace Go.Dm
open Go.Proofs Go.RowKit Go.Shelf
attribute [local go_sem] Oper.semAt_some

set_option maxRecDepth 100000 in
set_option maxHeartbeats 4000000 in
theorem TryzBack1 (b len : Nat) (L : List Int) (hL : L.length = len) (hlen : len < 2 ^ 62) (l : Nat) (J : Nat → World → Prop) (W : World) (hJ : ∀ k W1,J k W1 → ∃ v,W1.cell? ⟨b,0,none⟩ = some v ∧ SlAt W1 v L)
    (hY : ∀ j W1,j < len → J (len - (j + 1)) W1 → YieldAt Fence.wide 0 Tryz.prog l #[.int .i64 (j : Int),.int .i64 (L[j]?.getD 0)] W1 fun e W' => e = .returned (.bool true) ∧ J (len - j) W') (h0 : J 0 W) :
    CallsIn Fence.wide 0 Tryz.prog 142 #[.func (.yield l) #[] #[],.pointer (some ⟨b,0,none⟩)] W fun e W' => (∃ v,e = .returned v) ∧ J len W' := by
  refine callsIn_of_wp Tryz.func142 rfl trivial ?_ rfl
  simp only [Tryz.ntmps142,List.size_toArray,List.length_cons,List.length_nil,Nat.reduceAdd,Nat.reduceSub,Array.replicate_succ,Array.replicate_zero,List.push_toArray,List.append_toArray,List.nil_append,List.cons_append]
  obtain ⟨v,hv,hs⟩ := hJ 0 W h0
  have hlv : ∃ p c,v = .slice p len c := by
    rcases hs with ⟨h1,h2⟩ | ⟨b',o,cap,h2,_,_⟩
    · exact ⟨none,0,by rw [h2,← hL,h1]; rfl⟩
    · exact ⟨_,_,by rw [h2,hL]⟩
  obtain ⟨p,c,rfl⟩ := hlv
  clear hs
  gi_wp2
  gi_loopw [3] (fun i wr => ∃ j : Nat,j ≤ len ∧ i = .int .i64 ((j : Int) - 1) ∧ J (len - j) wr)
    (fun i _ => (intOf i + 1).toNat)
  case atStart => exact ⟨len,Nat.le_refl _,rfl,by rw [Nat.sub_self]; exact h0⟩
  case round =>
    obtain ⟨j,hj,rfl,hJs⟩ := hrel
    cases j with
    | zero =>
      gi_wp2
      go_end0
      exact ⟨⟨_,rfl⟩,hJs⟩
    | succ j =>
      obtain ⟨v,hv,hs⟩ := hJ _ _ hJs
      rcases hs with ⟨h1,_⟩ | ⟨b',o,cap,rfl,hcap,hc⟩
      · rw [h1] at hL; simp at hL; omega
      · have hcx := hc j (by omega)
        rw [hL] at hv
        simp only [at_,List.getD_eq_getElem?_getD] at hcx hv
        obtain ⟨fn,tmps,assign,body,hy,hR⟩ := hY j wr (by omega) hJs
        have e : (((j + 1 : Nat) : Int) - 1) = (j : Int) := by omega
        rw [e]
        gi_wp2
        refine ⟨rfl,hR.mono ?_⟩
        rintro e W3 ⟨rfl,hJ3⟩
        gi_wp2
        go_roundw
        case rel => exact ⟨j,by omega,by simp,hJ3⟩
        case measure => simp [intOf]

theorem TryzBack : Aee Tryz.prog 142 := by
  refine ⟨fun args w => enters_of Tryz.func142 (by kernel_rfl) rfl args w,fun b L hlen l J W hJ hY h0 => ?_⟩
  have hf : fen none = Fence.wide := rfl
  rw [hf] at hY ⊢
  refine TryzBack1 b L.length L rfl hlen l J W hJ (fun j W1 hj hJ1 => ?_) h0
  have := hY (L.length - (j + 1)) W1 (by omega) hJ1
  rw [show L.length - 1 - (L.length - (j + 1)) = j by omega,show L.length - (j + 1) + 1 = L.length - j by omega,List.getD_eq_getElem?_getD] at this
  exact this
end Go.Dm


/- Types of the program. -/
namespace Go.Dm
open Go.Proofs
set_option linter.unusedVariables false
def Tt : Ty := [(3,⟨.int .i64,1,8,[.int .i64 0],false⟩),
  (4,⟨.bool,1,1,[.bool false],false⟩),
  (5,⟨.int .u8,1,1,[.int .u8 0],false⟩),
  (9,⟨.str,1,16,[.string ByteArray.empty],false⟩),
  (22,⟨.slice 3,1,24,[.slice none 0 0],false⟩),
  (27,⟨.slice 37,1,24,[.slice none 0 0],false⟩),
  (29,⟨.struct [(0,27),(1,3)],2,32,[.slice none 0 0,.int .i64 0],false⟩),
  (31,⟨.slice 73,1,24,[.slice none 0 0],false⟩),
  (37,⟨.struct [(0,3),(1,3),(2,9),(3,3),(4,3),(5,3)],6,56,[.int .i64 0,.int .i64 0,.string ByteArray.empty,.int .i64 0,.int .i64 0,.int .i64 0],false⟩),
  (41,⟨.struct [(0,3),(1,3),(2,3),(3,3),(4,3),(5,4)],6,48,[.int .i64 0,.int .i64 0,.int .i64 0,.int .i64 0,.int .i64 0,.bool false],false⟩),
  (42,⟨.slice 187,1,24,[.slice none 0 0],false⟩),
  (44,⟨.struct [(0,3),(1,3),(2,3),(3,3),(4,3),(5,3),(6,3),(7,22),(8,22),(9,3),(10,41),(16,42)],17,184,[.int .i64 0,.int .i64 0,.int .i64 0,.int .i64 0,.int .i64 0,.int .i64 0,.int .i64 0,.slice none 0 0,.slice none 0 0,.int .i64 0,.int .i64 0,.int .i64 0,.int .i64 0,.int .i64 0,.int .i64 0,.bool false,.slice none 0 0],false⟩),
  (62,⟨.func,1,8,[.nilFunc],false⟩),
  (67,⟨.int .i64,1,8,[.int .i64 0],false⟩),
  (73,⟨.struct [(0,3),(1,44)],18,192,[.int .i64 0,.int .i64 0,.int .i64 0,.int .i64 0,.int .i64 0,.int .i64 0,.int .i64 0,.int .i64 0,.slice none 0 0,.slice none 0 0,.int .i64 0,.int .i64 0,.int .i64 0,.int .i64 0,.int .i64 0,.int .i64 0,.bool false,.slice none 0 0],false⟩),
  (75,⟨.slice 22,1,24,[.slice none 0 0],false⟩),
  (84,⟨.struct [(0,22),(1,3)],2,32,[.slice none 0 0,.int .i64 0],false⟩),
  (88,⟨.map 3 22,1,8,[(.map none)],false⟩),
  (89,⟨.map 3 4,1,8,[(.map none)],false⟩),
  (91,⟨.struct [(0,29),(2,31),(3,88),(4,89)],5,72,[.slice none 0 0,.int .i64 0,.slice none 0 0,(.map none),(.map none)],false⟩),
  (134,⟨.slice 9,1,24,[.slice none 0 0],false⟩),
  (140,⟨.int .u64,1,8,[.int .u64 0],false⟩),
  (168,⟨.int .i64,1,8,[.int .i64 0],false⟩),
  (177,⟨.int .u64,1,8,[.int .u64 0],false⟩),
  (184,⟨.map 3 3,1,8,[(.map none)],false⟩),
  (187,⟨.struct [(0,3),(1,3),(2,3),(3,3),(4,3),(5,3),(6,3)],7,56,[.int .i64 0,.int .i64 0,.int .i64 0,.int .i64 0,.int .i64 0,.int .i64 0,.int .i64 0],false⟩),
  (192,⟨.int .u64,1,8,[.int .u64 0],false⟩),
  (206,⟨.slice 5,1,24,[.slice none 0 0],false⟩)]
theorem Abp : Jm Tryz.prog Tt := tyGood_of ⟨⟨⟨by kernel_rfl,by kernel_rfl⟩,trivial⟩,⟨⟨by kernel_rfl,by kernel_rfl⟩,trivial⟩,⟨⟨by kernel_rfl,by kernel_rfl⟩,trivial⟩,⟨⟨by kernel_rfl,by kernel_rfl⟩,trivial⟩,⟨⟨by kernel_rfl,by kernel_rfl⟩,trivial⟩,⟨⟨by kernel_rfl,by kernel_rfl⟩,trivial⟩,⟨⟨by kernel_rfl,by kernel_rfl⟩,trivial⟩,⟨⟨by kernel_rfl,by kernel_rfl⟩,trivial⟩,⟨⟨by kernel_rfl,by kernel_rfl⟩,trivial⟩,⟨⟨by kernel_rfl,by kernel_rfl⟩,trivial⟩,⟨⟨by kernel_rfl,by kernel_rfl⟩,trivial⟩,⟨⟨by kernel_rfl,by kernel_rfl⟩,trivial⟩,⟨⟨by kernel_rfl,by kernel_rfl⟩,trivial⟩,⟨⟨by kernel_rfl,by kernel_rfl⟩,trivial⟩,⟨⟨by kernel_rfl,by kernel_rfl⟩,trivial⟩,⟨⟨by kernel_rfl,by kernel_rfl⟩,trivial⟩,⟨⟨by kernel_rfl,by kernel_rfl⟩,trivial⟩,⟨⟨by kernel_rfl,by kernel_rfl⟩,trivial⟩,⟨⟨by kernel_rfl,by kernel_rfl⟩,trivial⟩,⟨⟨by kernel_rfl,by kernel_rfl⟩,trivial⟩,⟨⟨by kernel_rfl,by kernel_rfl⟩,trivial⟩,⟨⟨by kernel_rfl,by kernel_rfl⟩,trivial⟩,⟨⟨by kernel_rfl,by kernel_rfl⟩,trivial⟩,⟨⟨by kernel_rfl,by kernel_rfl⟩,trivial⟩,⟨⟨by kernel_rfl,by kernel_rfl⟩,trivial⟩,⟨⟨by kernel_rfl,by kernel_rfl⟩,trivial⟩,⟨⟨by kernel_rfl,by kernel_rfl⟩,trivial⟩,⟨⟨by kernel_rfl,by kernel_rfl⟩,trivial⟩,trivial⟩ (by kernel_rfl) (by kernel_rfl)
theorem mixed : Tryz.prog.follows .mixedOrders = true := by kernel_rfl
theorem RK {cx : Cx} {σ : St} {Q : Exit → St → Prop} {nt : Nat} (hnt : cx.nt = nt) {ops : Array Oper} {id : Nat} {draw : Bool} {r : List Code} (xs : List Orc) (sl : List (Nat × MV)) (ob : List (Nat × Obj))
    {q : Prop} (hq : q) (hQ : DW Tryz.prog cx r (Ae sl ob) Q) (h : Vr Tryz.prog Tt nt ops xs (Bx sl) (Bx ob) draw σ = some ((sl,ob),q) := by kernel_rfl) : DW Tryz.prog cx (.region id ops draw :: r) σ Q := DW.rk Abp mixed hnt xs sl ob hq h hQ
theorem RD {cx : Cx} {Q : Exit → St → Prop} {nt : Nat} (hnt : cx.nt = nt) {ops : Array Oper} {id : Nat} {draw : Bool} {r : List Code} {sl0 : List (Nat × MV)} {ob0 : List (Nat × Obj)} (xs : List Orc) (ds : List Nat) (us : List (Nat × MV)) (dk : List Nat) (uo : List (Nat × Obj))
    {q : Prop} (hq : q) (hQ : DW Tryz.prog cx r (Ae (up ds us sl0) (up dk uo ob0)) Q) (h : Vr Tryz.prog Tt nt ops xs (Bx (up ds us sl0)) (Bx (up dk uo ob0)) draw (Ae sl0 ob0) = some ((up ds us sl0,up dk uo ob0),q) := by kernel_rfl) : DW Tryz.prog cx (.region id ops draw :: r) (Ae sl0 ob0) Q := DW.rd Abp mixed hnt xs ds us dk uo hq hQ h
theorem SO {f : FuncId} {fn : Func} {c : Code} (hf : Tryz.prog.funcs[f]? = some fn) (hb : fn.body = some c)
    {args : List MV} {outs : List Body} {res : MV} {outs' news : List Body} (hlen : outs'.length = outs.length)
    (sl : List (Nat × MV)) (ob : List (Nat × Obj)) (hd : ∀ cx : Cx,cx.nt = fn.ntmps → DW Tryz.prog cx [c] (Ae sl ob) (finQ Tt fn.results.toList outs.length res (outs' ++ news)))
    (hname : fn.name ≠ "runtime.NumGoroutine" := by decide) (hle : Nat.ble args.length fn.ntmps = true := by rfl) (hm : Nat.ble outs.length 1000 = true := by rfl)
    (h1 : Qk (upN args.length 0) (upN outs.length 0) ⟨fun t => (args[t]?).getD .any,Bo outs⟩ = sl := by kernel_rfl)
    (h2 : Nx (upN outs.length 0) ⟨fun t => (args[t]?).getD .any,Bo outs⟩ = ob := by kernel_rfl) :
    Spec Tryz.prog f args outs res outs' news := spec_of Abp hf hname hb hlen (Nat.le_of_ble_eq_true hle) (Nat.le_of_ble_eq_true hm) h1 h2 fun cx hnt => DW.start (hd cx hnt)
theorem RN {cx : Cx} {σ : St} {Q : Exit → St → Prop} {nt : Nat} (hnt : cx.nt = nt) {ops : Array Oper} {id : Nat} {draw : Bool} {r : List Code} (xs : List Orc) (sl : List (Nat × MV)) (ob : List (Nat × Obj))
    (ps : List (Nat × MV)) (qs : List (Nat × Body)) {q : Prop} (hq : q) (h : Vr Tryz.prog Tt nt ops xs (Bx sl) (Bx ob) draw σ = some ((Qn ps sl,Pg qs ob),q)) (hs : SP sl ps) (ho : OP ob qs)
    (hQ : DW Tryz.prog cx r (Ae sl ob) Q) : DW Tryz.prog cx (.region id ops draw :: r) σ Q := DW.rn Abp mixed hnt xs sl ob ps qs hq h hs ho hQ
theorem RT {cx : Cx} {σ : St} {nt : Nat} (hnt : cx.nt = nt) {ops : Array Oper} {draw : Bool} {sl : List (Nat × MV)} {ob : List (Nat × Obj)} (xs : List Orc)
    (ps : List (Nat × MV)) {q : Prop} (hq : q) (h : Vr Tryz.prog Tt nt ops xs (Bx sl) (Bx ob) draw σ = some ((Qn ps sl,ob),q)) (hs : SP sl ps) : RegTo Tryz.prog cx ops draw σ sl ob := RegTo.rn Abp mixed hnt xs ps hq h hs
theorem SOR {f : FuncId} {fn : Func} {c : Code} (hf : Tryz.prog.funcs[f]? = some fn) (hb : fn.body = some c)
    {args : List MV} {outs : List Body} {res : MV} {outs' news : List Body} (hlen : outs'.length = outs.length)
    (sl : List (Nat × MV)) (ob : List (Nat × Obj)) (hd : ∀ cx : Cx,cx.nt = fn.ntmps → cx.rd = none → DW Tryz.prog cx [c] (Ae sl ob) (finQ Tt fn.results.toList outs.length res (outs' ++ news)))
    (hname : fn.name ≠ "runtime.NumGoroutine" := by decide) (hle : Nat.ble args.length fn.ntmps = true := by rfl) (hm : Nat.ble outs.length 1000 = true := by rfl)
    (h1 : Qk (upN args.length 0) (upN outs.length 0) ⟨fun t => (args[t]?).getD .any,Bo outs⟩ = sl := by kernel_rfl)
    (h2 : Nx (upN outs.length 0) ⟨fun t => (args[t]?).getD .any,Bo outs⟩ = ob := by kernel_rfl) :
    Spec Tryz.prog f args outs res outs' news := AfE Abp hf hname hb hlen (Nat.le_of_ble_eq_true hle) (Nat.le_of_ble_eq_true hm) h1 h2 fun cx hnt hrd => DW.start (hd cx hnt hrd)
theorem SB {cd : Option Code} {c : Code} {nt : Nat} {args : List MV} {outs outs' : List Body} (hb : cd = some c) (hlen : outs'.length = outs.length) (sl : List (Nat × MV)) (ob : List (Nat × Obj))
    (hd : ∀ cx : Cx,cx.nt = nt → DW Tryz.prog cx [c] (Ae sl ob) (bfin Tt outs.length outs')) (hle : args.length = nt := by rfl) (hm : Nat.ble outs.length 1000 = true := by rfl)
    (h1 : Qk (Bx sl) (upN outs.length 0) ⟨fun t => (args[t]?).getD .any,Bo outs⟩ = sl := by kernel_rfl)
    (h2 : Nx (upN outs.length 0) ⟨fun t => (args[t]?).getD .any,Bo outs⟩ = ob := by kernel_rfl) : ∀ c' : Code,cd = some c' → BSpec Tryz.prog nt c' args outs outs' := by
  intro c' h
  have e : c' = c := Option.some.inj (h.symm.trans hb)
  subst e
  exact bspec_of Abp hlen hle (Nat.le_of_ble_eq_true hm) h1 h2 fun cx hnt => DW.start (hd cx hnt)
theorem endB {σ : St} {m : Nat} {bs : List Body} (bs' : List Body) (ex : List Nat) (res' : MV) (h : fin Tt [] m ex σ = some (res',bs') := by kernel_rfl) (e : res' = .p (.tup []) := by rfl) (e2 : bs' = bs ++ [] := by rfl) : bfin Tt m bs .normal σ := ⟨ex,by rw [← e,← e2]; exact h⟩
end Go.Dm

