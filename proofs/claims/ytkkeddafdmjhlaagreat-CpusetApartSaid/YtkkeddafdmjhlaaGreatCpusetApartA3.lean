/- Texts of the proof of CpusetApart: the data machine, the models of the Go functions, their contracts. -/
import Derived.Test.YtkkeddafdmjhlaaGreatCpusetApartA2
import Derived.Test.YtkkeddafdmjhlaaGreatCpusetApartA1
import Derived.RangeFuncSeq
import Derived.RangeFuncBox
import Derived.Shelf.Abstract
import Derived.WalkKit
import Derived.OwnWalkIn
import Derived.TacticsInMore
import Derived.LoopNIn
import Derived.LoopIn
import Derived.Test.YtkkeddafdmjhlaaGreatProg
set_option linter.unusedVariables false
set_option linter.unusedSimpArgs false
/- Plain theory, part 22: the program's changes of hierarchies are the document's. -/
namespace Go.Dm
theorem Xw {α : Type} {L : List α} {a n : Nat} {x : α} (h : a + n ≤ L.length) : (Iz L a n x).length = L.length := by
 simp only [Iz,List.length_append,List.length_take,List.length_replicate,List.length_drop]
 omega
theorem Ww {α : Type} {L : List α} {a n : Nat} {x : α} (h : a ≤ L.length) : (Iz L a n x).take a = L.take a := by
 unfold Iz
 rw [List.take_append_of_le_length (by rw [List.length_take]; omega),List.take_take,Nat.min_self]
theorem Adk {α R : Type} {p : α → Bool} {L : List α} {d : α} (hl : L.length ≤ 1000000) {body : List α × Int × Int → (List α × Int × Int → Option R) → Option R} {Q : R → Prop} {i0 : Nat} (hi0 : i0 < L.length) (h0 : ∀ x ∈ L.take i0,p x = false) (hp : p (L.getD i0 d) = true)
  (hb : ∀ (M : List α) (i j : Nat) n,M.length = L.length → i < j → j < L.length → (∀ s,(s = if p (M.getD j d) then (M,(i : Int),((j + 1 : Nat) : Int)) else (M.set i (M.getD j d),((i + 1 : Nat) : Int),((j + 1 : Nat) : Int))) → Ok (n s) Q) → Ok (body (M,(i : Int),(j : Int)) n) Q)
  (hr : ∀ (M : List α) (i : Nat) n,M.length = L.length → i ≤ L.length → M.take i = L.filter (fun x => !p x) → Ok (body (M,(i : Int),(L.length : Int)) n) Q) : Ok (whileO body Fg (L,(i0 : Int),((i0 + 1 : Nat) : Int))) Q := by
 refine Ok.while (fun s => ∃ i j : Nat,s.2.1 = (i : Int) ∧ s.2.2 = (j : Int) ∧ i < j ∧ j ≤ L.length ∧ s.1.length = L.length ∧ s.1.take i = (L.take j).filter (fun x => !p x) ∧ s.1.drop j = L.drop j) (fun s => L.length - s.2.2.toNat) ?_ ?_ ?_
 ·refine ⟨i0,i0 + 1,rfl,rfl,by omega,by omega,rfl,?_,rfl⟩
  have e : L.take (i0 + 1) = L.take i0 ++ [L.getD i0 d] := by
   rw [List.take_add_one,Fi hi0]
   simp [hi0]
  rw [e,List.filter_append,List.filter_eq_self.mpr fun x hx => by simp [h0 x hx]]
  simp only [hp,Bool.not_true,List.filter_cons,Bool.false_eq_true,if_false,List.filter_nil,List.append_nil]
 ·rw [Em]
  omega
 ·rintro ⟨M,x,y⟩ n ⟨i,j,e1,e2,hij,hj,hM,ht,hd⟩ hn
  simp only at e1 e2 hM ht hd
  subst e1 e2
  by_cases hjl : j < L.length
  ·refine hb M i j n hM hij hjl fun s hs => ?_
   have hMj : M.getD j d = L.getD j d := by
    have := congrArg List.head? hd
    rw [List.head?_drop,List.head?_drop] at this
    rw [List.getD_eq_getElem?_getD,List.getD_eq_getElem?_getD,this]
   have e : L.take (j + 1) = L.take j ++ [L.getD j d] := by
    rw [List.take_add_one,Fi hjl]
    simp [hjl]
   have hd' : M.drop (j + 1) = L.drop (j + 1) := by
    have := congrArg (List.drop 1) hd
    rw [List.drop_drop,List.drop_drop] at this
    exact this
   cases hpj : p (M.getD j d) with
   | true =>
    rw [hpj,if_pos rfl] at hs
    subst hs
    refine hn _ ⟨i,j + 1,rfl,rfl,by omega,by omega,hM,?_,hd'⟩ (by simp only; omega)
    simp only
    rw [ht,e,List.filter_append,← hMj,List.filter_cons,hpj]
    simp
   | false =>
    rw [hpj,if_neg (by simp)] at hs
    subst hs
    refine hn _ ⟨i + 1,j + 1,rfl,rfl,by omega,by omega,by simp [hM],?_,?_⟩ (by simp only; omega)
    ·simp only
     rw [e,List.filter_append,← hMj,← ht]
     have hi : i < M.length := by omega
     rw [List.take_add_one,List.filter_cons,hpj,List.take_set_of_le (Nat.le_refl _),List.getElem?_set_self hi]
     rfl
    ·simp only
     rw [List.drop_set_of_lt (by omega),hd']
  ·obtain rfl : j = L.length := by omega
   refine hr M i n hM (by omega) ?_
   rw [ht,List.take_length]
end Go.Dm

/- Plain theory, part 23: spoiled hierarchies; hierarchies that are refused. -/
namespace Go.Dm
end Go.Dm

/- Plain theory, part 24: kinds of groups, domains, what fits. -/
namespace Go.Dm
def Aba (t : Ae) (a : Int) : Aj := (Vc t a).getD zN
theorem Agk {t : Ae} (w : WfT t) {x : Aj} (hx : x ∈ t.nodes) : Aba t x.id = x := by
 unfold Aba
 rw [getN_of w.sorted hx]
 rfl
theorem nodeN_id {t : Ae} {id : Int} (h : Ei t id = true) : (Aba t id).id = id ∧ Aba t id ∈ t.nodes := by
 unfold Aba Ei at *
 cases hg : Vc t id with
 | none => rw [hg] at h; simp at h
 | some x => exact ⟨(AbF hg).2,(AbF hg).1⟩
theorem up_cons {t : Ae} (w : WfT t) {id : Int} (h : Ei t id = true) : upT t id = id :: upT t (Aba t id).parent := by
 obtain ⟨e,hx⟩ := nodeN_id h
 have := w.up hx
 rw [e] at this
 exact this
theorem AgM {t : Ae} (w : WfT t) : Ei t 1 = true := by
 obtain ⟨n,q,e,hr⟩ := w.root
 exact hasN_iff.mpr ⟨n,by rw [e]; simp,hr.id⟩
theorem AhH {t : Ae} (w : WfT t) {x : Aj} (hx : x ∈ t.nodes) (h1 : x.id ≠ 1) : Ei t x.parent = true := by
 rcases w.p.par x hx with ⟨h,_⟩ | ⟨_,_,⟨z,hz,e⟩,_⟩
 ·exact absurd h h1
 ·exact hasN_iff.mpr ⟨z,hz,e⟩
end Go.Dm

/- Plain theory, part 25: forks that are counted. -/
namespace Go.Dm
end Go.Dm

/- Plain theory, part 39: ascending lists; Sorted of the sets; Compact of lists that do not fall. -/
namespace Go.Dm
abbrev Asc (L : List Int) : Prop := L.Pairwise (· < ·)
theorem Aey : ∀ {A B : List Int},Asc A → Asc B → (∀ x,x ∈ A ↔ x ∈ B) → A = B
 | [],B,_,_,h => by
  cases B with
  | nil => rfl
  | cons b B => exact absurd ((h b).mpr (by simp)) (by simp)
 | a :: A,[],_,_,h => absurd ((h a).mp (by simp)) (by simp)
 | a :: A,b :: B,ha,hb,h => by
  rw [Asc,List.pairwise_cons] at ha hb
  have hab : a = b := by
   rcases List.mem_cons.mp ((h a).mp (by simp)) with e | e
   ·exact e
   ·rcases List.mem_cons.mp ((h b).mpr (by simp)) with e' | e'
    ·exact e'.symm
    ·have h1 := hb.1 a e
     have h2 := ha.1 b e'
     omega
  subst hab
  congr 1
  refine Aey ha.2 hb.2 fun x => ?_
  have hx := h x
  simp only [List.mem_cons] at hx
  constructor
  ·intro hm
   rcases hx.mp (.inr hm) with e | e
   ·have := ha.1 x hm
    omega
   ·exact e
  ·intro hm
   rcases hx.mpr (.inr hm) with e | e
   ·have := hb.1 x hm
    omega
   ·exact e
theorem Zm {A : List Int} (h : Asc A) : A.Nodup := h.imp fun h => by omega
theorem le_at {L : List Int} (h : L.Pairwise (· ≤ ·)) {i j : Nat} (hij : i ≤ j) (hj : j < L.length) : L.getD i 0 ≤ L.getD j 0 := by
 by_cases e : i = j
 ·subst e
  omega
 ·rw [Fi hj,Fi (by omega)]
  exact List.pairwise_iff_getElem.mp h i j (by omega) hj (by omega)
theorem Ga {L : List Int} {k : Nat} (h : k < L.length) : L.take (k + 1) = L.take k ++ [L.getD k 0] := by
 rw [List.take_add_one,Fi h,List.getElem?_eq_getElem h]
 rfl
theorem AhT {L : List Int} (hl : L.length ≤ 1000000) (h : L.Pairwise (· ≤ ·)) : Ok (It L) (fun r => r.2.length = L.length ∧ r.1 ≤ L.length ∧ Asc (r.2.take r.1) ∧ ∀ x,x ∈ r.2.take r.1 ↔ x ∈ L) := by
 have whole : Asc L → (L.length,L).2.length = L.length ∧ (L.length,L).1 ≤ L.length ∧ Asc ((L.length,L).2.take (L.length,L).1) ∧ ∀ x,x ∈ (L.length,L).2.take (L.length,L).1 ↔ x ∈ L := by
  intro ha
  refine ⟨rfl,Nat.le_refl _,?_,fun x => ?_⟩
  ·show Asc (L.take L.length)
   rw [List.take_length]
   exact ha
  ·show x ∈ L.take L.length ↔ x ∈ L
   rw [List.take_length]
 unfold It
 refine Ok.ite (fun c => Ok.ret (whole ?_)) fun c => ?_
 ·have : L.length < 2 := by
   have : ((L.length : Nat) : Int) < 2 := by simpa using c
   omega
  match L,this with
  | [],_ => exact List.Pairwise.nil
  | [a],_ => simp [Asc]
 have hl2 : 2 ≤ L.length := by
  have : ¬ ((L.length : Nat) : Int) < 2 := by simpa using c
  omega
 refine Ok.guard (by omega) ?_
 refine Ok.for (fun j _ => Asc (L.take (j + 1))) ?_ ?_ ?_
 ·rw [Ga (by omega)]
  simp [Asc]
 ·intro j _ n hj ha hn
  have hj' : j + 1 < L.length := by omega
  have hw : w64 (1 + (j : Int) - 1) = (j : Int) := by
   rw [Au (by omega) (by omega)]
   omega
  have e1 : Int.toNat (1 + (j : Int)) = j + 1 := by omega
  have e0 : Int.toNat (j : Int) = j := by omega
  unfold Oj
  rw [hw,e1,e0]
  refine Ok.guard ⟨by omega,by omega⟩ (Ok.guard hj' (Ok.guard ⟨by omega,by omega⟩ (Ok.guard (by omega) ?_)))
  refine Ok.ite (fun c => ?_) fun c => ?_
  ·have heq : L.getD (j + 1) 0 = L.getD j 0 := by simpa using c
   refine Ok.guard ⟨by omega,by omega⟩ (Ok.guard (by rw [Pr]; omega) ?_)
   refine Ok.for (fun q s => ∃ k : Nat,s.2 = (k : Int) ∧ s.1.length = L.length ∧ 1 ≤ k ∧ k ≤ j + 1 + q ∧ s.1.drop (j + 1 + q) = L.drop (j + 1 + q) ∧ Asc (s.1.take k) ∧ (∀ x,x ∈ s.1.take k ↔ x ∈ L.take (j + 1 + q + 1)) ∧ s.1.getD (k - 1) 0 = L.getD (j + 1 + q) 0) ?_ ?_ ?_
   ·refine ⟨j + 1,by simp only; omega,rfl,by omega,by omega,rfl,ha,fun x => ?_,?_⟩
    ·show x ∈ L.take (j + 1) ↔ x ∈ L.take (j + 1 + 0 + 1)
     rw [Nat.add_zero,Ga (k := j + 1) hj',List.mem_append,heq]
     constructor
     ·exact .inl
     ·rintro (h | h)
      ·exact h
      ·have : x = L.getD j 0 := by simpa using h
       rw [this,Ga (k := j) (by omega)]
       simp
    ·simp only [Nat.add_sub_cancel,Nat.add_zero]
     exact heq.symm
   ·rintro q ⟨M,k'⟩ m hq ⟨k,e2,hM,k1,hk,hd,hasc,hmem,hlast⟩ hm
    simp only at e2 hM hd hasc hmem hlast
    subst e2
    rw [Pr] at hq
    have hw2 : w64 (1 + (q : Int) - 1) = (q : Int) := by
     rw [Au (by omega) (by omega)]
     omega
    have e3 : Int.toNat (1 + (q : Int)) = q + 1 := by omega
    have e4 : Int.toNat (q : Int) = q := by omega
    have hqL : j + 1 + q + 1 < L.length := by omega
    have hget : ∀ i,j + 1 + q ≤ i → M.getD i 0 = L.getD i 0 := by
     intro i hi
     have h1 : M.getD i 0 = (M.drop (j + 1 + q)).getD (i - (j + 1 + q)) 0 := by
      simp only [List.getD_eq_getElem?_getD,List.getElem?_drop]
      congr 2
      omega
     have h2 : L.getD i 0 = (L.drop (j + 1 + q)).getD (i - (j + 1 + q)) 0 := by
      simp only [List.getD_eq_getElem?_getD,List.getElem?_drop]
      congr 2
      omega
     rw [h1,h2,hd]
    unfold Oy
    simp only
    rw [hw2,e1,e3,e4,Pr,Xi,Xi,hget (j + 1 + (q + 1)) (by omega),hget (j + 1 + q) (by omega),hM]
    refine Ok.guard ⟨by omega,by omega⟩ (Ok.guard (by omega) (Ok.guard ⟨by omega,by omega⟩ (Ok.guard (by omega) ?_)))
    have hk' : Int.toNat (k : Int) = k := by omega
    have hle := le_at h (i := j + 1 + q) (j := j + 1 + (q + 1)) (by omega) (by omega)
    have htake : L.take (j + 1 + (q + 1) + 1) = L.take (j + 1 + q + 1) ++ [L.getD (j + 1 + (q + 1)) 0] := Ga (k := j + 1 + (q + 1)) (by omega)
    have hin : L.getD (j + 1 + q) 0 ∈ L.take (j + 1 + q + 1) := by
     rw [Ga (by omega)]
     simp
    refine Ok.ite (fun c => ?_) fun c => ?_
    ·have hne : L.getD (j + 1 + (q + 1)) 0 ≠ L.getD (j + 1 + q) 0 := by simpa using c
     refine Ok.guard ⟨by omega,by omega⟩ (Ok.guard (by omega) (Ok.guard ⟨by omega,by omega⟩ (Ok.guard (by rw [hk']; omega) ?_)))
     rw [hk']
     have hwk : w64 ((k : Int) + 1) = ((k + 1 : Nat) : Int) := by
      rw [Au (by omega) (by omega)]
      omega
     have hset : (M.set k (L.getD (j + 1 + (q + 1)) 0)).take (k + 1) = M.take k ++ [L.getD (j + 1 + (q + 1)) 0] := by
      rw [Ga (by rw [List.length_set]; omega),List.take_set_of_le (Nat.le_refl _)]
      congr 2
      rw [List.getD_eq_getElem?_getD,List.getElem?_set_self (by omega)]
      rfl
     refine hm _ ⟨k + 1,by rw [hwk],by simp [hM],by omega,by omega,?_,?_,?_,?_⟩
     ·show (M.set k _).drop (j + 1 + (q + 1)) = L.drop (j + 1 + (q + 1))
      rw [List.drop_set_of_lt (by omega),show j + 1 + (q + 1) = j + 1 + q + 1 by omega,← List.drop_drop,hd,List.drop_drop]
     ·show Asc ((M.set k _).take (k + 1))
      rw [hset,Asc,List.pairwise_append]
      refine ⟨hasc,by simp,fun a ha b hb => ?_⟩
      have hb' : b = L.getD (j + 1 + (q + 1)) 0 := by simpa using hb
      have hkk : k = k - 1 + 1 := by omega
      rw [hkk,Ga (by omega),List.mem_append] at ha
      rcases ha with ha | ha
      ·have h2 := hasc
       rw [hkk,Ga (by omega),Asc,List.pairwise_append] at h2
       have := h2.2.2 a ha _ (List.mem_singleton.mpr rfl)
       omega
      ·have : a = M.getD (k - 1) 0 := by simpa using ha
       omega
     ·intro x
      show x ∈ (M.set k _).take (k + 1) ↔ _
      rw [hset,htake,List.mem_append,List.mem_append,hmem x]
     ·show (M.set k _).getD (k + 1 - 1) 0 = _
      rw [Nat.add_sub_cancel,List.getD_eq_getElem?_getD,List.getElem?_set_self (by omega)]
      rfl
    ·have heq2 : L.getD (j + 1 + (q + 1)) 0 = L.getD (j + 1 + q) 0 := by simpa using c
     refine hm _ ⟨k,rfl,hM,k1,by omega,?_,hasc,?_,?_⟩
     ·show M.drop (j + 1 + (q + 1)) = L.drop (j + 1 + (q + 1))
      rw [show j + 1 + (q + 1) = j + 1 + q + 1 by omega,← List.drop_drop,hd,List.drop_drop]
     ·intro x
      show x ∈ M.take k ↔ _
      rw [htake,List.mem_append,hmem x]
      constructor
      ·exact .inl
      ·rintro (h | h)
       ·exact h
       ·have : x = L.getD (j + 1 + (q + 1)) 0 := by simpa using h
        rw [this,heq2]
        exact hin
     ·show M.getD (k - 1) 0 = _
      rw [hlast]
      exact heq2.symm
   ·rintro ⟨M,k'⟩ ⟨k,e2,hM,k1,hk,hd,hasc,hmem,hlast⟩
    simp only at e2 hM hd hasc hmem hlast
    subst e2
    have hm0 : Int.toNat ((((Gm L.length (j + 1)) : Nat) : Int) - 1) = L.length - (j + 1) - 1 := by
     rw [Pr]
     omega
    rw [hm0] at hk hmem
    have hk' : Int.toNat (k : Int) = k := by omega
    unfold Ot
    simp only
    rw [hk',hM,Pr]
    have hfl : (Iz M k (L.length - k) 0).length = L.length := by
     rw [Xw (by omega),hM]
    refine Ok.guard ⟨by omega,by omega⟩ (Ok.guard (by omega) (Ok.guard ⟨by omega,by rw [hfl]; omega⟩ (Ok.ret ?_)))
    refine ⟨hfl,by show k ≤ _; omega,?_,?_⟩
    ·show Asc ((Iz M k (L.length - k) 0).take k)
     rw [Ww (by omega)]
     exact hasc
    ·intro x
     show x ∈ (Iz M k (L.length - k) 0).take k ↔ x ∈ L
     rw [Ww (by omega),hmem x,List.take_of_length_le (by omega)]
  ·have hne : L.getD (j + 1) 0 ≠ L.getD j 0 := by simpa using c
   refine hn () ?_
   have hle := le_at h (i := j) (j := j + 1) (by omega) hj'
   rw [Ga (k := j + 1) hj',Asc,List.pairwise_append]
   refine ⟨ha,by simp,fun a ha' b hb => ?_⟩
   have hb' : b = L.getD (j + 1) 0 := by simpa using hb
   rw [Ga (by omega),List.mem_append] at ha'
   rcases ha' with ha' | ha'
   ·have h2 := ha
    rw [Ga (by omega),Asc,List.pairwise_append] at h2
    have := h2.2.2 a ha' _ (List.mem_singleton.mpr rfl)
    omega
   ·have : a = L.getD j 0 := by simpa using ha'
    omega
 ·intro _ ha
  refine Ok.ret (whole ?_)
  have : Int.toNat (((L.length : Nat) : Int) - 1) + 1 = L.length := by omega
  rw [this,List.take_length] at ha
  exact ha
theorem sortU_ok {L : List Int} (hl : L.length ≤ 1000) : ∃ M,Hz L = some M ∧ M.length = L.length ∧ ∃ r,It M = some r ∧ r.2.length = M.length ∧ r.1 ≤ M.length ∧ Asc (r.2.take r.1) ∧ ∀ x,x ∈ r.2.take r.1 ↔ x ∈ L := by
 obtain ⟨M,h1,h2,h3⟩ := Sort_ok L hl
 have hlen := h2.length_eq
 obtain ⟨r,g1,g2,g3,g4,g5⟩ := AhT (L := M) (by omega) h3
 exact ⟨M,h1,hlen,r,g1,g2,g3,g4,fun x => (g5 x).trans h2.mem_iff⟩
end Go.Dm

/- Plain theory, part 30: what keeps Fits; all made hierarchies fit. -/
namespace Go.Dm
section
variable {t t' : Ae} {fn : Aj → Aj}
end
section
variable {t t' : Ae} {p : Int} {s : ByteArray}
end
end Go.Dm

/- Plain theory, part 31: threaded's functions. -/
namespace Go.Dm
theorem AgL {t : Ae} (hm : ∀ x ∈ t.nodes,AcB x) (w : ¬ WfT t) : Ov t = some false := by
 obtain ⟨b,hb,e⟩ := Abq t hm
 cases b
 ·exact hb
 ·exact absurd (e.mp rfl) w
end Go.Dm

/- Plain theory, part 32: new groups. -/
namespace Go.Dm
end Go.Dm

/- Plain theory, part 33: controllers are written, groups are made threaded. -/
namespace Go.Dm
end Go.Dm

/- Plain theory, part 34: names of made groups are short. -/
namespace Go.Dm
end Go.Dm

/- Plain theory, part 35: rights of users. -/
namespace Go.Dm
end Go.Dm

/- Plain theory, part 36: acts of users. -/
namespace Go.Dm
theorem Aat (l : List Int) (hl : l.length ≤ 1000000) : Ib l l = some true := by
 unfold Ib
 rw [if_neg (by simp),if_pos (by omega)]
 apply Ok.eq
 refine Ok.range (fun _ _ => True) trivial ?_ fun _ _ => Ok.ret rfl
 intro pre x post s n he _ hn
 unfold Aag
 have hi : pre.length < l.length := by
  rw [he]
  simp
 rw [if_pos hi]
 have : l.getD pre.length 0 = x := by
  rw [he]
  exact Sy
 rw [this,if_neg (by simp)]
 exact hn () trivial
end Go.Dm

/- Plain theory, part 40: what is read of any hierarchy; processes; hierarchies that were handed in. -/
namespace Go.Dm
end Go.Dm

/- Plain theory of freezers, part 1: what is read; valid freezers. -/
namespace Go.Dm
def zF (g : Int) : Frost := { group := g,want := false,frozen := false,changes := 0 }
def frN (f : AaH) (g : Int) : Frost := (f.frosts.find? (fun x => x.group == g)).getD (zF g)
def wN (t : Ae) (f : AaH) (id : Int) : Bool := (upT t id).any (fun g => (frN f g).want)
def rN (h : AbZ) (f : AaH) (id : Int) : Bool := wN h.tree f id && h.tasks.all (fun x => !(upT h.tree x.group).contains id || f.stopped.contains x.id)
section
variable {h : AbZ} {t : Ae} {f f' : AaH}
theorem AdJ {pre : List Int} {x : Int} (a : Asc pre) (h1 : ∀ y ∈ pre,y < x) : Asc (pre ++ [x]) := by
 rw [Asc,List.pairwise_append]
 exact ⟨a,by simp,fun y hy z hz => by rw [List.mem_singleton.mp hz]; exact h1 y hy⟩
end
end Go.Dm

/- Plain theory of freezers, part 2: what changes make of them. -/
namespace Go.Dm
theorem Abx (l : List Int) (x : Int) (hl : l.length ≤ 9223372036854775807) : Fx l x = some (l.contains x) := by
 unfold Fx Lm
 rw [if_pos (by omega),Mx (p := fun y : Int => x == y) (fun k y n => rfl) rfl,Option.bind_some]
 rcases Qu (fun y : Int => x == y) l 0 with ⟨i,h1,h2,h3⟩ | ⟨h1,h2⟩
 ·rw [h2]
  have hm := List.mem_of_find?_eq_some h3
  have he := List.find?_some h3
  have : l.contains x = true := by
   rw [List.contains_iff_mem]
   have : x = l.getD i 0 := by simpa using he
   rw [this]
   exact hm
  rw [this]
  simp
 ·rw [h1]
  have : l.contains x = false := by
   rw [List.find?_eq_none] at h2
   cases hc : l.contains x
   ·rfl
   ·rw [List.contains_iff_mem] at hc
    have := h2 x hc
    simp at this
  rw [this]
  simp
section
variable {h : AbZ} {f : AaH}
theorem Qw {l : List Int} (hl : l.length ≤ 1000000) : Dz l = some l := by
 unfold Dz
 rw [if_pos (by omega)]
end
end Go.Dm

/- Plain theory of processor sets, part 1: settings, sets of small numbers. -/
namespace Go.Dm
set_option linter.unusedVariables false
set_option linter.unusedSimpArgs false
def okSet (n : Int) (L : List Int) : Prop := Asc L ∧ ∀ x ∈ L,0 ≤ x ∧ x < n
theorem AeB : ∀ {L : List Int} {a n : Int},Asc L → (∀ x ∈ L,a ≤ x ∧ x < n) → (L.length : Int) ≤ max 0 (n - a)
 | [],a,n,_,_ => by simp; omega
 | x :: r,a,n,h,hb => by
  rw [Asc,List.pairwise_cons] at h
  have hx := hb x (by simp)
  have ih := AeB (L := r) (a := x + 1) (n := n) h.2 (fun y hy => ⟨by have := h.1 y hy; omega,(hb y (by simp [hy])).2⟩)
  simp only [List.length_cons]
  omega
theorem okSet.len {n : Int} {L : List Int} (h : okSet n L) (hn : 0 ≤ n) : (L.length : Int) ≤ n := by
 have := AeB h.1 h.2
 omega
theorem Ej {m : Option Bool} {rest : Option Bool} {P R : Prop} (h : Ok m (fun b => b = true ↔ P)) (k : P → Ok rest (fun b => b = true ↔ R)) : Ok (Option.bind m fun r => if r then rest else some false) (fun b => b = true ↔ P ∧ R) := by
 refine Ok.bind h fun r hr => Ok.ite (fun c => ?_) fun c => Ok.ret ?_
 ·have hp := hr.mp c
  exact (k hp).mono fun b hb => by rw [hb]; simp [hp]
 ·have : ¬ P := fun hp => by rw [hr.mpr hp] at c; simp at c
  simp [this]
theorem Xc {m : Option Bool} {P : Prop} (h : Ok m (fun b => b = true ↔ P)) : Ok (Option.bind m fun r => some r) (fun b => b = true ↔ P) := Ok.bind h fun r hr => Ok.ret hr
theorem Hv (a lo hi : Int) : Ok (Cu a lo hi) (fun b => b = true ↔ (lo ≤ a ∧ a ≤ hi)) := by
 unfold Cu
 exact Ok.ret (by simp)
theorem Hn (a lo hi : Int) : Ok (Fr a lo hi) (fun b => b = true ↔ ((lo ≤ a ∧ a ≤ hi) ∨ a = 4611686018427387904)) := by
 unfold Fr
 exact Ok.ret (by simp)
theorem prev_ok {pre post : List Int} {x d : Int} (hl : pre.length + 1 ≤ 9223372036854775807) (h : 0 < pre.length) : w64 (((pre.length : Nat) : Int) - 1) = ((pre.length - 1 : Nat) : Int) := by
 rw [Au (by omega) (by omega)]
 omega
theorem Np (L : List Int) (n : Int) (hl : L.length ≤ 9223372036854775807) : Ok (Kc L n) (fun b => b = true ↔ okSet n L) := by
 unfold Kc
 refine Ok.guard hl ?_
 refine Ok.range (fun pre _ => okSet n pre) ⟨List.Pairwise.nil,fun x hx => by simp at hx⟩ ?_ fun _ h => Ok.ret (by simp [h])
 intro pre x post s m he hp hn
 unfold Xm Ls
 have hlen : pre.length + 1 ≤ L.length := by rw [he]; simp
 refine Ok.ite (fun c => Ok.ret ?_) fun c => Ok.ite (fun c2 => Ok.ret ?_) fun c2 => ?_
 ·have c := of_decide_eq_true c
  simp only [Bool.false_eq_true,false_iff]
  intro ⟨_,hb⟩
  have := hb x (by rw [he]; simp)
  omega
 ·have c2 := of_decide_eq_true c2
  simp only [Bool.false_eq_true,false_iff]
  intro ⟨_,hb⟩
  have := hb x (by rw [he]; simp)
  omega
 ·have c := of_decide_eq_false c
  have c2 := of_decide_eq_false c2
  refine Ok.ite (fun c3 => ?_) fun c3 => ?_
  ·have c3 := of_decide_eq_true c3
   have h0 : 0 < pre.length := by omega
   rw [prev_ok (post := post) (x := x) (d := 0) (by omega) h0]
   refine Ok.guard (by omega) ?_
   have hlast : L.getD (pre.length - 1) 0 = pre.getD (pre.length - 1) 0 := by
    rw [he,List.getD_eq_getElem?_getD,List.getD_eq_getElem?_getD,List.getElem?_append_left (by omega)]
   simp only [Int.toNat_natCast,hlast]
   refine Ok.ite (fun c4 => Ok.ret ?_) fun c4 => ?_
   ·have c4 := of_decide_eq_true c4
    simp only [Bool.false_eq_true,false_iff]
    intro ⟨ha,_⟩
    rw [he,Asc,List.pairwise_append] at ha
    have := ha.2.2 (pre.getD (pre.length - 1) 0) (Sv (by omega)) x (by simp)
    omega
   ·have c4 := of_decide_eq_false c4
    refine hn () ⟨?_,fun y hy => ?_⟩
    ·refine AdJ hp.1 fun y hy => ?_
     obtain ⟨j,hj,rfl⟩ := List.getElem_of_mem hy
     have hle : pre[j] ≤ pre.getD (pre.length - 1) 0 := by
      have := le_at (L := pre) (hp.1.imp (fun h => Int.le_of_lt h)) (i := j) (j := pre.length - 1) (by omega) (by omega)
      rwa [Fi hj] at this
     omega
    ·rcases List.mem_append.mp hy with h | h
     ·exact hp.2 y h
     ·simp at h; subst h; omega
  ·have c3 := of_decide_eq_false c3
   have h0 : pre = [] := List.eq_nil_of_length_eq_zero (by omega)
   subst h0
   refine Ok.ite (fun c => by simp at c) fun _ => hn () ⟨by simp [Asc],fun y hy => by simp at hy; subst hy; omega⟩
theorem Ys (m : Hr) : ∃ b,Dp m = some b := by
 obtain ⟨b,h,_⟩ : Ok (Dp m) (fun _ => True) := by
  unfold Dp Gw
  refine Ok.bind (Hn _ _ _) fun _ _ => Ok.ite (fun _ => ?_) fun _ => Ok.ret trivial
  refine Ok.bind (Hn _ _ _) fun _ _ => Ok.ite (fun _ => ?_) fun _ => Ok.ret trivial
  refine Ok.bind (Hn _ _ _) fun _ _ => Ok.ite (fun _ => ?_) fun _ => Ok.ret trivial
  refine Ok.bind (Hn _ _ _) fun _ _ => Ok.ite (fun _ => ?_) fun _ => Ok.ret trivial
  exact Ok.bind (Hn _ _ _) fun _ _ => Ok.ret trivial
 exact ⟨b,h⟩
theorem Yl (L : List Az) (hl : L.length ≤ 9223372036854775807) : ∃ b,Cz L = some b := by
 obtain ⟨b,h,_⟩ : Ok (Cz L) (fun _ => True) := by
  unfold Cz
  refine Ok.guard hl ?_
  refine Ok.range (fun _ _ => True) trivial ?_ fun _ _ => Ok.ret trivial
  intro pre x post s n he _ hn
  have hlen : pre.length + 1 ≤ L.length := by rw [he]; simp
  have hj : ∀ b,Ok (Bh n b) (fun _ => True) := by
   intro b
   unfold Bh
   exact Ok.ite (fun _ => Ok.ret trivial) fun _ => hn () trivial
  unfold Qk
  refine Ok.ite (fun _ => hj _) fun _ => Ok.ite (fun _ => hj _) fun _ => Ok.ite (fun c3 => ?_) fun _ => ?_
  ·have c3 := of_decide_eq_true c3
   refine Ok.guard (by rw [Au (by omega) (by omega)]; omega) ?_
   refine Ok.ite (fun _ => hj _) fun _ => Ok.ite (fun _ => hj _) fun _ => Ok.ite (fun _ => hj _) fun _ => ?_
   refine Ok.bind (Hn _ _ _) fun _ _ => Ok.ite (fun _ => hj _) fun _ => ?_
   refine Ok.bind (Hn _ _ _) fun _ _ => Ok.ite (fun _ => hj _) fun _ => ?_
   refine Ok.bind (Hn _ _ _) fun _ _ => Ok.ite (fun _ => hj _) fun _ => ?_
   refine Ok.bind (Hn _ _ _) fun _ _ => Ok.ite (fun _ => hj _) fun _ => ?_
   exact Ok.ite (fun _ => hj _) fun _ => hj _
  ·refine Ok.ite (fun _ => hj _) fun _ => Ok.ite (fun _ => hj _) fun _ => ?_
   refine Ok.bind (Hn _ _ _) fun _ _ => Ok.ite (fun _ => hj _) fun _ => ?_
   refine Ok.bind (Hn _ _ _) fun _ _ => Ok.ite (fun _ => hj _) fun _ => ?_
   refine Ok.bind (Hn _ _ _) fun _ _ => Ok.ite (fun _ => hj _) fun _ => ?_
   refine Ok.bind (Hn _ _ _) fun _ _ => Ok.ite (fun _ => hj _) fun _ => ?_
   exact Ok.ite (fun _ => hj _) fun _ => hj _
 exact ⟨b,h⟩
def BandP (s : Al) : Prop := (1 ≤ s.period ∧ s.period ≤ 1000000) ∧ if s.quota = 4611686018427387904 then s.burst = 0 else (1 ≤ s.quota ∧ s.quota ≤ 1000000) ∧ 0 ≤ s.burst ∧ s.burst ≤ s.quota
theorem Abv (s : Al) : Ok (Iy s) (fun b => b = true ↔ BandP s) := by
 unfold Iy Jf Ht BandP
 refine Ok.ite (fun c => ?_) fun c => ?_
 ·have c := beq_iff_eq.mp c
  rw [if_pos c]
  exact Ej (Hv _ _ _) fun _ => Ok.ret (by simp)
 ·have c : ¬ s.quota = 4611686018427387904 := by simpa using c
  rw [if_neg c]
  exact Ej (Hv _ _ _) fun _ => Ej (Hv _ _ _) fun _ => Xc (Hv _ _ _)
def RestP (s : Al) : Prop :=
 (1 ≤ s.weight ∧ s.weight ≤ 10000) ∧ BandP s ∧ (0 ≤ s.clampMin ∧ s.clampMin ≤ 10000) ∧ (0 ≤ s.clampMax ∧ s.clampMax ≤ 10000) ∧ okSet 16 s.cpus ∧ okSet 8 s.mems ∧ (0 ≤ s.partition ∧ s.partition ≤ 1) ∧
 Dp s.memory = some true ∧ Cz s.devices = some true
def CheckP (s : Al) : Prop := (s.pidsMax = 4611686018427387904 ∨ (0 ≤ s.pidsMax ∧ s.pidsMax ≤ 1099511627776)) ∧ RestP s
structure Dx (s : Al) : Prop where
 cpus : s.cpus.length ≤ 1000000
 mems : s.mems.length ≤ 1000000
 devices : s.devices.length ≤ 1000000
theorem AcK {m : Option Bool} (h : ∃ b,m = some b) : Ok m (fun b => b = true ↔ m = some true) := by
 obtain ⟨b,h⟩ := h
 exact ⟨b,h,by rw [h]; simp⟩
theorem Aci {s : Al} (hs : Dx s) : Ok (Nw s) (fun b => b = true ↔ CheckP s) := by
 have h1 := hs.cpus
 have h2 := hs.mems
 have h3 := hs.devices
 unfold Nw Br CheckP
 refine Ok.ite (fun c => ?_) fun c => ?_
 ·have c := beq_iff_eq.mp c
  have : (s.pidsMax = 4611686018427387904 ∨ (0 ≤ s.pidsMax ∧ s.pidsMax ≤ 1099511627776)) ↔ True := by simp [c]
  rw [this,true_and]
  exact Ej (Hv _ _ _) fun _ => Ej (Abv s) fun _ => Ej (Hv _ _ _) fun _ => Ej (Hv _ _ _) fun _ => Ej (Np _ _ (by omega)) fun _ =>
   Ej (Np _ _ (by omega)) fun _ => Ej (Hv _ _ _) fun _ => Ej (AcK (Ys _)) fun _ => Xc (AcK (Yl _ (by omega)))
 ·have c : ¬ s.pidsMax = 4611686018427387904 := by simpa using c
  have : (s.pidsMax = 4611686018427387904 ∨ (0 ≤ s.pidsMax ∧ s.pidsMax ≤ 1099511627776)) ↔ (0 ≤ s.pidsMax ∧ s.pidsMax ≤ 1099511627776) := by simp [c]
  rw [this]
  exact Ej (Hv _ _ _) fun _ => Ej (Hv _ _ _) fun _ => Ej (Abv s) fun _ => Ej (Hv _ _ _) fun _ => Ej (Hv _ _ _) fun _ => Ej (Np _ _ (by omega)) fun _ =>
   Ej (Np _ _ (by omega)) fun _ => Ej (Hv _ _ _) fun _ => Ej (AcK (Ys _)) fun _ => Xc (AcK (Yl _ (by omega)))
def dfS : Al := { pidsMax := 4611686018427387904,weight := 100,quota := 4611686018427387904,period := 100000,burst := 0,clampMin := 0,clampMax := 10000,cpus := [],mems := [],partition := 0,memory := { min := 0,low := 0,high := 4611686018427387904,max := 4611686018427387904,swapMax := 4611686018427387904,together := false },devices := [] }
def cfg (l : List Ac) (g : Int) : Al := (l.find? (fun x => x.group == g)).elim dfS (·.settings)
theorem AdT : CheckP dfS := by
 have e1 : Dp dfS.memory = some true := by kernel_rfl
 have e2 : Cz dfS.devices = some true := by kernel_rfl
 refine ⟨.inl rfl,⟨by simp [dfS],by simp [dfS]⟩,?_,by simp [dfS],by simp [dfS],⟨List.Pairwise.nil,fun x hx => by simp [dfS] at hx⟩,⟨List.Pairwise.nil,fun x hx => by simp [dfS] at hx⟩,by simp [dfS],e1,e2⟩
 unfold BandP
 simp [dfS]
theorem Acu : Dx dfS := ⟨by simp [dfS],by simp [dfS],by simp [dfS]⟩
theorem Abr {s : Al} (h : Dx s) : Ms s = some s := by
 have h1 := h.cpus
 have h2 := h.mems
 have h3 := h.devices
 unfold Ms
 rw [if_pos (by omega),if_pos (by omega),if_pos (by omega)]
theorem AdI {s : Al} (h : Dx s) : Pj s = some s := by
 have h1 := h.cpus
 have h2 := h.mems
 have h3 := h.devices
 unfold Pj Ex
 rw [Qw (by omega),Option.bind_some,Qw (by omega),Option.bind_some,if_pos (by omega),Option.bind_some]
theorem AbY {l : List Ac} (hl : l.length ≤ 1000000) (h : ∀ x ∈ l,Dx x.settings) (g : Int) : Of l g = some (cfg l g) := by
 unfold Of
 rw [if_pos (by omega)]
 apply Ok.eq
 refine Ok.range (fun pre _ => ∀ x ∈ pre,(x.group == g) = false) (by simp) ?_ ?_
 ·intro pre x post s n he hp hn
  unfold Vm
  refine Ok.ite (fun c => ?_) fun c => hn () ?_
  ·rw [Abr (h x (by rw [he]; simp)),Option.bind_some]
   refine Ok.ret ?_
   have hf : l.find? (fun x => x.group == g) = some x := by
    rw [he,List.find?_append,List.find?_eq_none.mpr (fun y hy => by rw [hp y hy]; simp),Option.none_or,List.find?_cons,c]
   unfold cfg
   rw [hf]
   rfl
  ·intro y hy
   rcases List.mem_append.mp hy with h | h
   ·exact hp y h
   ·simp at h; subst h; exact c
 ·intro s hp
  refine Ok.of_eq (b := dfS) rfl ?_
  have hf : l.find? (fun x => x.group == g) = none := List.find?_eq_none.mpr (fun y hy => by rw [hp y hy]; simp)
  unfold cfg
  rw [hf]
  rfl
theorem Tv {l : List Ac} (hl : l.length ≤ 1000000) (h : ∀ x ∈ l,Dx x.settings) (g : Int) : Mb l g = some (cfg l g) := by
 unfold Mb Vj Fe
 rw [if_pos (by omega),Mx (p := fun x : Ac => x.group == g) (fun k x n => by
  unfold Gs Ss
  rw [Option.bind_some]) rfl,Option.bind_some,Option.bind_some]
 rcases Qu (fun x : Ac => x.group == g) l default with ⟨i,h1,h2,h3⟩ | ⟨h1,h2⟩
 ·rw [h2,Option.elim_some,if_neg (by simp),if_pos (by omega)]
  simp only [Int.toNat_natCast]
  rw [AdI (h _ (Sv h1)),Option.bind_some]
  unfold cfg
  rw [h3]
  rfl
 ·rw [h1,Option.elim_none,if_pos (by simp)]
  unfold cfg
  rw [h2]
  rfl
end Go.Dm

/- Plain theory of processor sets, part 2: what is within, in both, in one alone; settings that fit. -/
namespace Go.Dm
set_option linter.unusedVariables false
set_option linter.unusedSimpArgs false
theorem Wt {L : List Int} (p : Int → Bool) (h : Asc L) : Asc (L.filter p) := h.sublist List.filter_sublist
theorem Aaq (L : List Int) (x : Int) (hl : L.length ≤ 9223372036854775807) : Sw L x = some (L.contains x) := by
 unfold Sw
 rw [Abx L x hl,Option.bind_some]
theorem AeC {A B : List Int} (ha : A.length ≤ 1000000) (hb : B.length ≤ 9223372036854775807) : Pl A B = some (A.all (fun x => B.contains x)) := by
 unfold Pl Fd Fy
 rw [if_pos (by omega),Mx (p := fun x : Int => !B.contains x) (fun k x n => by
  unfold Hj Sl
  rw [Aaq _ _ hb,Option.bind_some,Option.bind_some]) rfl,Option.bind_some,Option.bind_some]
 rcases Qu (fun x : Int => !B.contains x) A 0 with ⟨i,h1,h2,h3⟩ | ⟨h1,h2⟩
 ·rw [h2,Option.elim_some]
  congr 1
  have hx := List.find?_some h3
  have : A.all (fun x => B.contains x) = false := by
   rw [Bool.eq_false_iff]
   intro hall
   rw [List.all_eq_true] at hall
   have := hall _ (List.mem_of_find?_eq_some h3)
   rw [this] at hx
   simp at hx
  rw [this]
  simp
 ·rw [h1,Option.elim_none]
  congr 1
  have : A.all (fun x => B.contains x) = true := by
   rw [List.all_eq_true]
   intro x hx
   rw [List.find?_eq_none] at h2
   have := h2 x hx
   simpa using this
  rw [this]
  rfl
theorem AeO {L : List Int} (hl : L.length ≤ 1000) : Ok (Mu L) (fun r => Asc r ∧ (∀ x,x ∈ r ↔ x ∈ L) ∧ r.length ≤ L.length) := by
 unfold Mu
 obtain ⟨M,m1,m2,r,r1,r2,r3,r4,r5⟩ := sortU_ok hl
 rw [Qw (by omega),Option.bind_some,m1,Option.bind_some,if_pos m2.symm,r1,Option.bind_some,if_pos r2.symm,if_pos (by omega)]
 refine Ok.ret ⟨r4,r5,?_⟩
 rw [List.length_take]
 omega
theorem Zc {L : List Int} (hl : L.length ≤ 1000) (h : Asc L) : Mu L = some L := by
 obtain ⟨r,h1,h2,h3,_⟩ := AeO hl
 rw [h1,Aey h2 h h3]
theorem Abp {B : List Int} (hb : B.length ≤ 9223372036854775807) (x : Int) : Fv x B = some (B.contains x) := by
 unfold Fv Uo
 rw [Aaq _ _ hb,Option.bind_some,Option.bind_some,Bool.not_not]
theorem Abw {B : List Int} (hb : B.length ≤ 9223372036854775807) (x : Int) : Eh x B = some (!B.contains x) := by
 unfold Eh Ow
 rw [Aaq _ _ hb,Option.bind_some,Option.bind_some]
theorem Adr {B : List Int} (hb : B.length ≤ 9223372036854775807) (L : List Int) (h2 : L.length ≤ 1000000) :
  Ok (Cm L B) (fun r => r.2.1.length = L.length ∧ r.1 ≤ L.length ∧ r.2.1.take r.1 = L.filter (fun x => !B.contains x) ∧ r.2.2 = B) := by
 unfold Cm Dr
 rw [if_pos (by omega),Mx (p := fun x => B.contains x) (fun k x n => by
  unfold El
  rw [Abp hb,Option.bind_some]) rfl]
 refine Ok.step rfl ?_
 rcases Qu (fun x => B.contains x) L 0 with ⟨i,h1,h2',h3⟩ | ⟨h1,h2'⟩
 ·rw [h2',Option.elim_some]
  refine Ok.ite (fun c => by have := beq_iff_eq.mp c; omega) fun _ => ?_
  have e1 : w64 ((i : Int) + 1) = ((i + 1 : Nat) : Int) := by
   rw [Au (by omega) (by omega)]
   omega
  rw [e1]
  have hh := List.findIdx?_eq_some_iff_getElem.mp h2'
  obtain ⟨g1,g2,g3⟩ := hh
  refine Adk (p := fun x => B.contains x) (d := 0) h2 h1 ?_ ?_ ?_ ?_
  ·intro x hx
   obtain ⟨j,hj,rfl⟩ := List.getElem_of_mem hx
   rw [List.length_take] at hj
   rw [List.getElem_take]
   have := g3 j (by omega)
   simpa using this
  ·rw [Fi h1]
   exact g2
  ·intro M i j n hM hij hj hn
   unfold Dg Ci
   simp only
   have ei : Int.toNat (i : Int) = i := by omega
   have ej : Int.toNat (j : Int) = j := by omega
   rw [ei,ej]
   refine Ok.ite (fun _ => ?_) fun c => by
    have := of_decide_eq_false c
    omega
   refine Ok.guard (by omega) (Ok.guard (by omega) ?_)
   rw [Abp hb,Option.bind_some]
   have ej1 : w64 ((j : Int) + 1) = ((j + 1 : Nat) : Int) := by
    rw [Au (by omega) (by omega)]
    omega
   have ei1 : w64 ((i : Int) + 1) = ((i + 1 : Nat) : Int) := by
    rw [Au (by omega) (by omega)]
    omega
   rw [ej1,ei1]
   refine Ok.ite (fun c => ?_) fun c => ?_
   ·refine Ok.guard (by omega) (Ok.guard (by omega) (hn _ ?_))
    rw [if_neg]
    simpa using c
   ·refine hn _ ?_
    rw [if_pos]
    rw [Bool.not_eq_false'] at c
    exact c
  ·intro M i n hM hi ht
   unfold Dg
   simp only
   have ei : Int.toNat (i : Int) = i := by omega
   rw [ei,Pr]
   refine Ok.ite (fun c => by have := of_decide_eq_true c; omega) fun _ => ?_
   have hfl : (Iz M i (M.length - i) (0 : Int)).length = M.length := Xw (by omega)
   refine Ok.guard (by omega) (Ok.guard (by omega) (Ok.guard (by rw [hfl]; omega) (Ok.ret ⟨by simp only; rw [hfl,hM],hi,?_,rfl⟩)))
   simp only
   rw [Ww (by omega),ht]
 ·rw [h1,Option.elim_none]
  refine Ok.ite (fun _ => Ok.ret ⟨rfl,Nat.le_refl _,?_,rfl⟩) fun c => by simp at c
  simp only [List.take_length]
  symm
  rw [List.filter_eq_self]
  intro x hx
  rw [List.find?_eq_none] at h2'
  have := h2' x hx
  simpa using this
theorem Adq {B : List Int} (hb : B.length ≤ 9223372036854775807) (L : List Int) (h2 : L.length ≤ 1000000) :
  Ok (Cg L B) (fun r => r.2.1.length = L.length ∧ r.1 ≤ L.length ∧ r.2.1.take r.1 = L.filter (fun x => B.contains x) ∧ r.2.2 = B) := by
 have hff : L.filter (fun x => !(!B.contains x)) = L.filter (fun x => B.contains x) := by
  congr 1
  funext x
  simp
 unfold Cg Db
 rw [if_pos (by omega),Mx (p := fun x => !B.contains x) (fun k x n => by
  unfold Ed
  rw [Abw hb,Option.bind_some]) rfl]
 refine Ok.step rfl ?_
 rcases Qu (fun x => !B.contains x) L 0 with ⟨i,h1,h2',h3⟩ | ⟨h1,h2'⟩
 ·rw [h2',Option.elim_some]
  refine Ok.ite (fun c => by have := beq_iff_eq.mp c; omega) fun _ => ?_
  have e1 : w64 ((i : Int) + 1) = ((i + 1 : Nat) : Int) := by
   rw [Au (by omega) (by omega)]
   omega
  rw [e1]
  have hh := List.findIdx?_eq_some_iff_getElem.mp h2'
  obtain ⟨g1,g2,g3⟩ := hh
  refine Adk (p := fun x => !B.contains x) (d := 0) h2 h1 ?_ ?_ ?_ ?_
  ·intro x hx
   obtain ⟨j,hj,rfl⟩ := List.getElem_of_mem hx
   rw [List.length_take] at hj
   rw [List.getElem_take]
   have := g3 j (by omega)
   simpa using this
  ·rw [Fi h1]
   exact g2
  ·intro M i j n hM hij hj hn
   unfold Ct Cd
   simp only
   have ei : Int.toNat (i : Int) = i := by omega
   have ej : Int.toNat (j : Int) = j := by omega
   rw [ei,ej]
   refine Ok.ite (fun _ => ?_) fun c => by
    have := of_decide_eq_false c
    omega
   refine Ok.guard (by omega) (Ok.guard (by omega) ?_)
   rw [Abw hb,Option.bind_some]
   have ej1 : w64 ((j : Int) + 1) = ((j + 1 : Nat) : Int) := by
    rw [Au (by omega) (by omega)]
    omega
   have ei1 : w64 ((i : Int) + 1) = ((i + 1 : Nat) : Int) := by
    rw [Au (by omega) (by omega)]
    omega
   rw [ej1,ei1]
   refine Ok.ite (fun c => ?_) fun c => ?_
   ·refine Ok.guard (by omega) (Ok.guard (by omega) (hn _ ?_))
    rw [if_neg]
    simpa using c
   ·refine hn _ ?_
    rw [if_pos]
    rw [Bool.not_eq_false'] at c
    exact c
  ·intro M i n hM hi ht
   unfold Ct
   simp only
   have ei : Int.toNat (i : Int) = i := by omega
   rw [ei,Pr]
   refine Ok.ite (fun c => by have := of_decide_eq_true c; omega) fun _ => ?_
   have hfl : (Iz M i (M.length - i) (0 : Int)).length = M.length := Xw (by omega)
   refine Ok.guard (by omega) (Ok.guard (by omega) (Ok.guard (by rw [hfl]; omega) (Ok.ret ⟨by simp only; rw [hfl,hM],hi,?_,rfl⟩)))
   simp only
   rw [Ww (by omega),ht]
   exact hff
 ·rw [h1,Option.elim_none]
  refine Ok.ite (fun _ => Ok.ret ⟨rfl,Nat.le_refl _,?_,rfl⟩) fun c => by simp at c
  simp only [List.take_length]
  symm
  rw [List.filter_eq_self]
  intro x hx
  rw [List.find?_eq_none] at h2'
  have := h2' x hx
  simpa using this
def Rx (A B : List Int) : List Int := A.filter (fun x => !B.contains x)
def Abz (A B : List Int) : List Int := A.filter (fun x => B.contains x)
def Oc (A B : List Int) : List Int := if (Abz A B).length > 0 then Abz A B else B
theorem AfQ {A B : List Int} (h : Asc A) (ha : A.length ≤ 1000) (hb : B.length ≤ 9223372036854775807) : Rj A B = some (Rx A B) := by
 unfold Rj Jq
 obtain ⟨r,d1,d2,d3,d4,d5⟩ := Adr hb A (by omega)
 rw [Zc ha h,Option.bind_some,d1,Option.bind_some,if_pos d2.symm,if_pos (by omega),Option.bind_some,d4]
 rfl
theorem AcT {A B : List Int} (h : Asc A) (ha : A.length ≤ 1000) (hb : B.length ≤ 9223372036854775807) : Ni A B = some (Abz A B) := by
 unfold Ni Ia
 obtain ⟨r,d1,d2,d3,d4,d5⟩ := Adq hb A (by omega)
 rw [Zc ha h,Option.bind_some,d1,Option.bind_some,if_pos d2.symm,if_pos (by omega),Option.bind_some,d4]
 rfl
theorem Agn {A B : List Int} (h : Asc A) (ha : A.length ≤ 1000) (hb : B.length ≤ 1000) : Nz A B = some (Oc A B) := by
 unfold Nz Oc
 rw [AcT h ha (by omega),Option.bind_some]
 by_cases c : (Abz A B).length > 0
 ·rw [if_pos c,if_pos (by simpa using c)]
 ·rw [if_neg c,if_neg (by simpa using c),Qw (by omega),Option.bind_some]
structure FitsS (t : Ae) (l : List Ac) : Prop where
 wf : WfT t
 grp : l.map (·.group) = t.nodes.map (·.id)
 chk : ∀ x ∈ l,CheckP x.settings
theorem FitsS.len {t : Ae} {l : List Ac} (f : FitsS t l) : l.length = t.nodes.length := by
 have := congrArg List.length f.grp
 simpa using this
theorem AcP {t : Ae} {l : List Ac} (hm : ∀ x ∈ t.nodes,AcB x) (ht : t.nodes.length ≤ 1000000) (hl : l.length ≤ 1000000) (hs : ∀ x ∈ l,Dx x.settings) : Ok (Pc t l) (fun b => b = true ↔ FitsS t l) := by
 unfold Pc
 by_cases w : WfT t
 ·rw [Agh w,Option.bind_some,if_neg (by simp)]
  unfold Kp
  refine Ok.ite (fun c => Ok.ret ?_) fun c => ?_
  ·have c : ¬ ((l.length : Nat) : Int) = ((t.nodes.length : Nat) : Int) := by simpa using c
   simp only [Bool.false_eq_true,false_iff]
   intro f
   have := f.len
   omega
  ·have hlen : l.length = t.nodes.length := by
    have c : ((l.length : Nat) : Int) = ((t.nodes.length : Nat) : Int) := by simpa using c
    omega
   refine Ok.guard (by omega) ?_
   refine Ok.range (fun pre _ => (l.take pre.length).map (·.group) = pre.map (·.id) ∧ ∀ x ∈ l.take pre.length,CheckP x.settings) ⟨by simp,by simp⟩ ?_ ?_
   ·intro pre x post s n he hp hn
    unfold Ul Mo
    have hpl : pre.length + 1 ≤ t.nodes.length := by rw [he]; simp
    have htk : l.take (pre.length + 1) = l.take pre.length ++ [l.getD pre.length default] := by
     rw [List.take_add_one,List.getElem?_eq_getElem (by omega),Option.toList_some,Fi (by omega)]
    have hmem : l.getD pre.length default ∈ l := Sv (by omega)
    have hx : t.nodes.getD pre.length default = x := by rw [he]; exact Sy
    refine Ok.guard (by omega) (Ok.ite (fun c => Ok.ret ?_) fun c => Ok.guard (by omega) ?_)
    ·have c : ¬ (l.getD pre.length default).group = x.id := by simpa using c
     simp only [Bool.false_eq_true,false_iff]
     intro f
     apply c
     have := congrArg (fun q => q[pre.length]?) f.grp
     simp only [List.getElem?_map] at this
     rw [List.getElem?_eq_getElem (by omega),List.getElem?_eq_getElem (by omega)] at this
     simp only [Option.map_some,Option.some.injEq] at this
     rw [Fi (by omega),this,← Fi (d := default) (by omega),hx]
    ·have c : (l.getD pre.length default).group = x.id := by simpa using c
     obtain ⟨b,hb,hbi⟩ := Aci (hs _ hmem)
     rw [hb,Option.bind_some]
     refine Ok.ite (fun c2 => Ok.ret ?_) fun c2 => hn () ⟨?_,?_⟩
     ·simp only [Bool.false_eq_true,false_iff]
      intro f
      rw [hbi.mpr (f.chk _ hmem)] at c2
      simp at c2
     ·rw [List.length_append,List.length_singleton,htk,List.map_append,List.map_append,hp.1,List.map_singleton,List.map_singleton,c]
     ·rw [List.length_append,List.length_singleton,htk]
      intro y hy
      rcases List.mem_append.mp hy with h | h
      ·exact hp.2 y h
      ·simp only [List.mem_singleton] at h
       subst h
       exact hbi.mp (by simpa using c2)
   ·intro s hp
    refine Ok.of_eq (b := true) rfl ?_
    have : l.take t.nodes.length = l := List.take_of_length_le (by omega)
    rw [this] at hp
    simp only [true_iff]
    exact ⟨w,hp.1,hp.2⟩
 ·rw [AgL hm w,Option.bind_some,if_pos (by simp)]
  unfold Kp
  rw [if_pos rfl]
  exact Ok.ret (by simp only [Bool.false_eq_true,false_iff]; exact fun f => w f.wf)
structure Usable (t : Ae) (l : List Ac) (on : List Int) (n : Int) : Prop where
 fits : FitsS t l
 pos : 0 < on.length
 set : okSet n on
theorem Aep {t : Ae} {l : List Ac} {on : List Int} {n : Int} (hm : ∀ x ∈ t.nodes,AcB x) (ht : t.nodes.length ≤ 1000000) (hl : l.length ≤ 1000000) (hs : ∀ x ∈ l,Dx x.settings) (ho : on.length ≤ 9223372036854775807) :
  Ok (Jm t l on n) (fun b => b = true ↔ Usable t l on n) := by
 unfold Jm Kq
 have h := Ej (AcP hm ht hl hs) (R := 0 < on.length ∧ okSet n on) (rest := (if (decide (((on.length : Nat) : Int) > 0)) then (Option.bind (Kc on n) fun r4 => some r4) else some false)) fun _ => by
  refine Ok.ite (fun c => ?_) fun c => Ok.ret ?_
  ·have c : 0 < on.length := by have := of_decide_eq_true c; omega
   refine (Xc (Np on n ho)).mono fun b hb => ?_
   rw [hb]
   simp [c]
  ·have c := of_decide_eq_false c
   simp only [Bool.false_eq_true,false_iff]
   intro ⟨h,_⟩
   omega
 exact h.mono fun b hb => hb.trans ⟨fun ⟨a,b,c⟩ => ⟨a,b,c⟩,fun u => ⟨u.fits,u.pos,u.set⟩⟩
end Go.Dm

/- Plain theory of processor sets, part 3: how a group's share is divided. -/
namespace Go.Dm
set_option linter.unusedVariables false
set_option linter.unusedSimpArgs false
theorem Aft {S R : Type} {B : Int → S → (S → Option R) → Option R} {D : S → Option R} {r : R} (I : (Int → Bool) → S → Prop)
  (step : ∀ rem s n N,rem n = true → I rem s → (∀ s',I (Bd rem n false) s' → N s' = some r) → B n s N = some r) (fin : ∀ s,I (fun _ => false) s → D s = some r) :
  ∀ (m : Nat) (ks : List Int) (rem : Int → Bool) (s : S),ks.Nodup → ks.length < m → (∀ n,rem n = true ↔ n ∈ ks) → I rem s → rangeM B D m rem s = some r := by
 intro m
 induction m with
 | zero => intro ks rem s _ h; omega
 | succ m ih =>
  intro ks rem s hn hl hr hi
  rw [rangeM]
  by_cases h0 : ∀ n,rem n = false
  ·rw [if_pos h0]
   have : rem = fun _ => false := funext h0
   subst this
   exact fin s hi
  ·rw [if_neg h0]
   have key : ∀ n,rem n = true → B n s (rangeM B D m (Bd rem n false)) = some r := by
    intro n hrn
    have hnk := (hr n).mp hrn
    refine step rem s n _ hrn hi fun s' hi' => ?_
    refine ih (ks.filter (fun k => k != n)) (Bd rem n false) s' (hn.sublist List.filter_sublist) ?_ (fun k => ?_) hi'
    ·have : (ks.filter (fun k => k != n)).length < ks.length := by
      apply List.length_filter_lt_length_iff_exists.mpr
      exact ⟨n,hnk,by simp⟩
     omega
    ·simp only [Bd,List.mem_filter,bne_iff_ne,ne_eq]
     split
     ·rename_i e; subst e; simp
     ·rename_i e; rw [hr k]; simp [e]
   have hex : ∃ r,∀ n,rem n = true → B n s (rangeM B D m (Bd rem n false)) = some r := ⟨r,key⟩
   rw [dif_pos hex]
   have h1 : ∃ n,rem n = true := by
    by_cases h : ∃ n,rem n = true
    ·exact h
    ·exact absurd (fun n => by
      cases hq : rem n with
      | false => rfl
      | true => exact absurd ⟨n,hq⟩ h) h0
   obtain ⟨n,hn1⟩ := h1
   have := hex.choose_spec n hn1
   rw [key n hn1] at this
   exact this.symm
def Vg (al : Bool) (left : List Int) (s : Al) : Bool := s.partition == 1 && al && decide (0 < s.cpus.length) && s.cpus.all (fun x => left.contains x) && decide (s.cpus.length < left.length)
def Cj (l : List Ac) (al : Bool) : List Int → List Int → List Int × List Int
 | [],left => (left,[])
 | c :: r,left => if Vg al left (cfg l c) then ((Cj l al r (Rx left (cfg l c).cpus)).1,c :: (Cj l al r (Rx left (cfg l c).cpus)).2) else Cj l al r left
theorem Yv {l : List Ac} {al : Bool} {x : Int} : ∀ (pre : List Int) (left : List Int),
  Cj l al (pre ++ [x]) left = if Vg al (Cj l al pre left).1 (cfg l x) then (Rx (Cj l al pre left).1 (cfg l x).cpus,(Cj l al pre left).2 ++ [x]) else Cj l al pre left
 | [],left => by
  by_cases h : Vg al left (cfg l x) = true <;> simp [Cj,h]
 | c :: r,left => by
  rw [List.cons_append,Cj,Yv r left,Yv r (Rx left (cfg l c).cpus)]
  rw [Cj]
  by_cases h : Vg al left (cfg l c) = true
  ·rw [if_pos h,if_pos h]
   simp only
   split <;> simp
  ·rw [if_neg h,if_neg h]
theorem Ou {l : List Ac} {al : Bool} : ∀ (ks left : List Int),(∀ x ∈ (Cj l al ks left).1,x ∈ left) ∧ (∀ c ∈ (Cj l al ks left).2,c ∈ ks) ∧ (Asc left → Asc (Cj l al ks left).1)
 | [],left => by simp [Cj]
 | c :: r,left => by
  rw [Cj]
  by_cases h : Vg al left (cfg l c) = true
  ·rw [if_pos h]
   obtain ⟨h1,h2,h3⟩ := Ou r (Rx left (cfg l c).cpus) (l := l) (al := al)
   refine ⟨fun x hx => (List.mem_filter.mp (h1 x hx)).1,fun d hd => ?_,fun ha => h3 (Wt _ ha)⟩
   rcases List.mem_cons.mp hd with rfl | hd
   ·simp
   ·simp [h2 d hd]
  ·rw [if_neg h]
   obtain ⟨h1,h2,h3⟩ := Ou r left (l := l) (al := al)
   exact ⟨h1,fun d hd => by simp [h2 d hd],h3⟩
def Abi (t : Ae) (l : List Ac) (g : Int) (s : List Int) (al : Bool) : List Int := (Cj l al (Bf t g) s).1
def Lx (t : Ae) (l : List Ac) (g : Int) (s : List Int) (al : Bool) : List Int := (Cj l al (Bf t g) s).2
def stC (t : Ae) (l : List Ac) (on : List Int) : List Int → List Int × Bool
 | [] => ([],false)
 | [_] => (on,false)
 | c :: p :: r =>
  if (Lx t l p (stC t l on (p :: r)).1 (p == 1 || (stC t l on (p :: r)).2)).contains c then ((cfg l c).cpus,true)
  else (Oc (cfg l c).cpus (Abi t l p (stC t l on (p :: r)).1 (p == 1 || (stC t l on (p :: r)).2)),false)
def Dn (t : Ae) (l : List Ac) (on : List Int) (g : Int) : List Int := (stC t l on (upT t g)).1
def Ds (t : Ae) (l : List Ac) (on : List Int) (g : Int) : Bool := (stC t l on (upT t g)).2
def Jj (t : Ae) (l : List Ac) (on : List Int) (g : Int) : Bool := g == 1 || Ds t l on g
def Lq (t : Ae) (l : List Ac) (on : List Int) (g : Int) : List Int := Abi t l g (Dn t l on g) (Jj t l on g)
def Hg (t : Ae) (l : List Ac) (on : List Int) (g : Int) : List Int := Lx t l g (Dn t l on g) (Jj t l on g)
def Bv (t : Ae) (g x : Int) : Bool := (upT t x).contains g
variable {t : Ae} {l : List Ac} {on : List Int}
theorem below_iff {g x : Int} : Bv t g x = true ↔ g ∈ upT t x := by simp [Bv]
theorem Wi (w : WfT t) {g c : Int} (hc : c ∈ Bf t g) : upT t c = c :: upT t g ∧ Ei t c = true ∧ g < c := by
 obtain ⟨x,hx,rfl,rfl⟩ := kids_iff.mp hc
 exact ⟨w.up hx,hasN_iff.mpr ⟨x,hx,rfl⟩,w.par_lt hx⟩
theorem root_up (w : WfT t) : upT t 1 = [1] := by
 obtain ⟨x,r,e,hr⟩ := w.root
 have hx : x ∈ t.nodes := by rw [e]; simp
 have := w.up hx
 rw [hr.id,hr.parent,w.upZero] at this
 exact this
theorem Re (w : WfT t) : Dn t l on 1 = on ∧ Ds t l on 1 = false := by
 unfold Dn Ds
 rw [root_up w]
 exact ⟨rfl,rfl⟩
theorem Va {g : Int} (w : WfT t) (h : Ei t g = true) : ∃ r,upT t g = g :: r := ⟨_,up_cons w h⟩
theorem Qt (w : WfT t) {g c : Int} (hg : Ei t g = true) (hc : c ∈ Bf t g) :
  Ds t l on c = (Hg t l on g).contains c ∧ Dn t l on c = (if (Hg t l on g).contains c then (cfg l c).cpus else Oc (cfg l c).cpus (Lq t l on g)) := by
 obtain ⟨e1,e2,e3⟩ := Wi w hc
 obtain ⟨r,er⟩ := Va w hg
 unfold Ds Dn
 rw [e1,er,stC]
 unfold Hg Lq Dn Jj Ds
 rw [er]
 by_cases h : (Lx t l g (stC t l on (g :: r)).1 (g == 1 || (stC t l on (g :: r)).2)).contains c = true
 ·rw [if_pos h,if_pos h,h]
  exact ⟨rfl,rfl⟩
 ·rw [if_neg h,if_neg h]
  simp only [Bool.not_eq_true] at h
  rw [h]
  exact ⟨rfl,rfl⟩
def setsA (t : Ae) (l : List Ac) (on : List Int) (g : Int) (m : IMap (List Int)) : IMap (List Int) := ⟨fun x => Bv t g x || m.has x,fun x => if Bv t g x then Lq t l on x else m.get x⟩
def partA (t : Ae) (l : List Ac) (on : List Int) (g : Int) (m : IMap Bool) : IMap Bool := ⟨fun x => (Bv t g x && x != g && Ds t l on x) || m.has x,fun x => if Bv t g x && x != g && Ds t l on x then true else m.get x⟩
def He (m : IMap Bool) (ps : List Int) : IMap Bool := ⟨fun x => ps.contains x || m.has x,fun x => if ps.contains x then true else m.get x⟩
def Ny (l : List Ac) (ps : List Int) : IMap (List Int) := ⟨fun x => ps.contains x,fun x => if ps.contains x then (cfg l x).cpus else []⟩
def Nv (l : List Ac) (ps ms : List Int) (left : List Int) : IMap (List Int) := ⟨fun x => ms.contains x || ps.contains x,fun x => if ms.contains x then Oc (cfg l x).cpus left else if ps.contains x then (cfg l x).cpus else []⟩
theorem IMap.ext' {α : Type} {m n : IMap α} (h1 : ∀ x,m.has x = n.has x) (h2 : ∀ x,m.get x = n.get x) : m = n := by
 cases m
 cases n
 congr
 ·funext x; exact h1 x
 ·funext x; exact h2 x
theorem AgF (m : IMap Bool) (ps : List Int) (x : Int) : (He m ps).set x true = He m (ps ++ [x]) := by
 apply IMap.ext'
 ·intro y
  simp only [IMap.set,He,Bd,List.contains_eq_mem,List.mem_append,List.mem_singleton]
  by_cases h : y = x
  ·simp [h]
  ·simp [h]
 ·intro y
  simp only [IMap.set,He,Bd,List.contains_eq_mem,List.mem_append,List.mem_singleton,decide_eq_true_eq]
  by_cases h : y = x
  ·simp [h]
  ·simp [h]
theorem Ahb (ps : List Int) (x : Int) : (Ny l ps).set x (cfg l x).cpus = Ny l (ps ++ [x]) := by
 apply IMap.ext'
 ·intro y
  simp only [IMap.set,Ny,Bd,List.contains_eq_mem,List.mem_append,List.mem_singleton]
  by_cases h : y = x
  ·simp [h]
  ·simp [h]
 ·intro y
  simp only [IMap.set,Ny,Bd,List.contains_eq_mem,List.mem_append,List.mem_singleton,decide_eq_true_eq]
  by_cases h : y = x
  ·simp [h]
  ·simp [h]
theorem Ahh (ps ms left : List Int) (x : Int) : (Nv l ps ms left).set x (Oc (cfg l x).cpus left) = Nv l ps (ms ++ [x]) left := by
 apply IMap.ext'
 ·intro y
  simp only [IMap.set,Nv,Bd,List.contains_eq_mem,List.mem_append,List.mem_singleton]
  by_cases h : y = x
  ·simp [h]
  ·simp [h]
 ·intro y
  simp only [IMap.set,Nv,Bd,List.contains_eq_mem,List.mem_append,List.mem_singleton,decide_eq_true_eq]
  by_cases h : y = x
  ·simp [h]
  ·simp [h]
theorem Ahx (ps left : List Int) : Ny l ps = Nv l ps [] left := by
 apply IMap.ext'
 ·intro y; simp [Ny,Nv]
 ·intro y; simp [Ny,Nv]
structure UseS (t : Ae) (l : List Ac) (on : List Int) : Prop where
 fits : FitsS t l
 pos : 0 < on.length
 set : okSet 16 on
theorem CheckP.small {s : Al} (h : CheckP s) : s.cpus.length ≤ 16 ∧ s.mems.length ≤ 8 ∧ Asc s.cpus ∧ Asc s.mems := by
 obtain ⟨_,_,_,_,_,h1,h2,_,_,_⟩ := h
 have a1 := h1.len (by omega)
 have a2 := h2.len (by omega)
 exact ⟨by omega,by omega,h1.1,h2.1⟩
theorem cfg_mem {P : Al → Prop} (h : ∀ x ∈ l,P x.settings) (hd : P dfS) (g : Int) : P (cfg l g) := by
 unfold cfg
 cases hf : l.find? (fun x => x.group == g) with
 | none => exact hd
 | some x => exact h x (List.mem_of_find?_eq_some hf)
theorem FitsS.cfg (f : FitsS t l) (g : Int) : CheckP (cfg l g) := cfg_mem f.chk AdT g
theorem Zb (on16 : okSet 16 on) {L : List Int} (h : ∀ x ∈ L,x ∈ on) (ha : Asc L) : L.length ≤ 16 := by
 have := (show okSet 16 L from ⟨ha,fun x hx => on16.2 x (h x hx)⟩).len (by omega)
 omega
end Go.Dm

/- Plain theory of processor sets, part 4: the plan of the program. -/
namespace Go.Dm
set_option linter.unusedVariables false
set_option linter.unusedSimpArgs false
variable {t : Ae} {l : List Ac} {on : List Int}
theorem cond_iff {al : Bool} {left : List Int} {s : Al} : Vg al left s = true ↔ s.partition = 1 ∧ al = true ∧ 0 < s.cpus.length ∧ (∀ y ∈ s.cpus,y ∈ left) ∧ s.cpus.length < left.length := by
 simp [Vg,and_assoc]
theorem Zk {al : Bool} (hc : ∀ c,Asc (cfg l c).cpus) : ∀ (ks left : List Int),Asc left →
  (∀ c ∈ (Cj l al ks left).2,al = true ∧ (cfg l c).partition = 1 ∧ 0 < (cfg l c).cpus.length ∧ ∀ y ∈ (cfg l c).cpus,y ∈ left ∧ y ∉ (Cj l al ks left).1) ∧
  (∀ y ∈ left,y ∈ (Cj l al ks left).1 ∨ ∃ c ∈ (Cj l al ks left).2,y ∈ (cfg l c).cpus) ∧
  (ks.Nodup → ∀ c ∈ (Cj l al ks left).2,∀ d ∈ (Cj l al ks left).2,∀ y,y ∈ (cfg l c).cpus → y ∈ (cfg l d).cpus → c = d) ∧
  (0 < left.length → 0 < (Cj l al ks left).1.length)
 | [],left,ha => by simp [Cj]
 | c :: r,left,ha => by
  rw [Cj]
  by_cases h : Vg al left (cfg l c) = true
  ·rw [if_pos h]
   obtain ⟨c1,c2,c3,c4,c5⟩ := cond_iff.mp h
   have hm : ∀ y,y ∈ Rx left (cfg l c).cpus ↔ y ∈ left ∧ y ∉ (cfg l c).cpus := by
    intro y
    simp [Rx]
   obtain ⟨h1,h2,h3,h4⟩ := Zk (al := al) hc r (Rx left (cfg l c).cpus) (Wt _ ha)
   obtain ⟨s1,s2,s3⟩ := Ou (l := l) (al := al) r (Rx left (cfg l c).cpus)
   refine ⟨fun d hd => ?_,fun y hy => ?_,fun hn d hd e he y hyd hye => ?_,fun hpos => h4 ?_⟩
   ·simp only
    rcases List.mem_cons.mp hd with rfl | hd
    ·exact ⟨c2,c1,c3,fun y hy => ⟨c4 y hy,fun hy2 => ((hm y).mp (s1 y hy2)).2 hy⟩⟩
    ·obtain ⟨g1,g2,g3,g4⟩ := h1 d hd
     exact ⟨g1,g2,g3,fun y hy => ⟨((hm y).mp (g4 y hy).1).1,(g4 y hy).2⟩⟩
   ·simp only
    by_cases hyc : y ∈ (cfg l c).cpus
    ·exact .inr ⟨c,by simp,hyc⟩
    ·rcases h2 y ((hm y).mpr ⟨hy,hyc⟩) with g | ⟨d,hd,g⟩
     ·exact .inl g
     ·exact .inr ⟨d,by simp [hd],g⟩
   ·simp only at hd he
    rw [List.nodup_cons] at hn
    rcases List.mem_cons.mp hd with rfl | hd <;> rcases List.mem_cons.mp he with rfl | he
    ·rfl
    ·exact absurd hyd ((hm y).mp ((h1 e he).2.2.2 y hye).1).2
    ·exact absurd hye ((hm y).mp ((h1 d hd).2.2.2 y hyd).1).2
    ·exact h3 hn.2 d hd e he y hyd hye
   ·apply Nat.pos_of_ne_zero
    intro h0
    have he := List.eq_nil_of_length_eq_zero h0
    have : left.length ≤ (cfg l c).cpus.length := Tc (Zm ha) fun y hy => by
     by_cases hyc : y ∈ (cfg l c).cpus
     ·exact hyc
     ·have := (hm y).mpr ⟨hy,hyc⟩
      rw [he] at this
      simp at this
    omega
  ·rw [if_neg h]
   obtain ⟨h1,h2,h3,h4⟩ := Zk (al := al) hc r left ha
   exact ⟨h1,h2,fun hn => h3 (List.nodup_cons.mp hn).2,h4⟩
theorem UseS.asc (u : UseS t l on) (c : Int) : Asc (cfg l c).cpus := (u.fits.cfg c).small.2.2.1
theorem UseS.w (u : UseS t l on) : WfT t := u.fits.wf
theorem Afs {A B : List Int} : ∀ y ∈ Oc A B,y ∈ B := by
 intro y hy
 unfold Oc at hy
 split at hy
 ·simp only [Abz,List.mem_filter,List.contains_eq_mem,decide_eq_true_eq] at hy
  exact hy.2
 ·exact hy
theorem Afw {A B : List Int} (ha : Asc A) (hb : Asc B) : Asc (Oc A B) := by
 unfold Oc
 split
 ·exact Wt _ ha
 ·exact hb
theorem Afm {A B : List Int} (hb : 0 < B.length) : 0 < (Oc A B).length := by
 unfold Oc
 split
 ·assumption
 ·exact hb
theorem share_ok (u : UseS t l on) : ∀ x ∈ t.nodes,Asc (Dn t l on x.id) ∧ (∀ y ∈ Dn t l on x.id,y ∈ on) ∧ 0 < (Dn t l on x.id).length := by
 refine u.w.induct fun x hx ih => ?_
 rcases u.w.p.par x hx with ⟨h1,_⟩ | ⟨_,_,⟨y,hy,hyp⟩,_⟩
 ·rw [h1,(Re u.w).1]
  exact ⟨u.set.1,fun y hy => hy,u.pos⟩
 ·obtain ⟨i1,i2,i3⟩ := ih y hy hyp
  rw [hyp] at i1 i2 i3
  have hg : Ei t x.parent = true := hasN_iff.mpr ⟨y,hy,hyp⟩
  have hk : x.id ∈ Bf t x.parent := kids_iff.mpr ⟨x,hx,rfl,rfl⟩
  obtain ⟨e1,e2⟩ := Qt (l := l) (on := on) u.w hg hk
  rw [e2]
  obtain ⟨p1,p2,p3,p4⟩ := Zk (al := Jj t l on x.parent) u.asc (Bf t x.parent) _ i1
  obtain ⟨s1,s2,s3⟩ := Ou (l := l) (al := Jj t l on x.parent) (Bf t x.parent) (Dn t l on x.parent)
  split
  ·rename_i hc
   have hc : x.id ∈ Hg t l on x.parent := by simpa using hc
   obtain ⟨_,_,q3,q4⟩ := p1 _ hc
   exact ⟨u.asc _,fun y hy => i2 y (q4 y hy).1,q3⟩
  ·exact ⟨Afw (u.asc _) (s3 i1),fun y hy => i2 y (s1 y (Afs y hy)),Afm (p4 i3)⟩
theorem Afe (u : UseS t l on) {g : Int} (h : Ei t g = true) : Asc (Dn t l on g) ∧ (∀ y ∈ Dn t l on g,y ∈ on) ∧ 0 < (Dn t l on g).length ∧ (Dn t l on g).length ≤ 16 := by
 obtain ⟨x,hx,rfl⟩ := hasN_iff.mp h
 obtain ⟨h1,h2,h3⟩ := share_ok u x hx
 exact ⟨h1,h2,h3,Zb u.set h2 h1⟩
theorem AeJ (u : UseS t l on) {g : Int} (h : Ei t g = true) : Asc (Lq t l on g) ∧ (∀ y ∈ Lq t l on g,y ∈ Dn t l on g) ∧ 0 < (Lq t l on g).length ∧ (Lq t l on g).length ≤ 16 := by
 obtain ⟨h1,h2,h3,_⟩ := Afe u h
 obtain ⟨p1,p2,p3,p4⟩ := Zk (al := Jj t l on g) u.asc (Bf t g) _ h1
 obtain ⟨s1,s2,s3⟩ := Ou (l := l) (al := Jj t l on g) (Bf t g) (Dn t l on g)
 exact ⟨s3 h1,s1,p4 h3,Zb u.set (fun y hy => h2 y (s1 y hy)) (s3 h1)⟩
theorem Agt (u : UseS t l on) (hs : ∀ x ∈ l,Dx x.settings) {g : Int} {al : Bool} {p : plan} (ht : p.tree = t) (hl : p.configs = l) (hg : Ei t g = true) {s : List Int} (ha : Asc s) (h16 : s.length ≤ 16)
  (hal : p.partitions.get g = al) {rec : plan → Int → List Int → Option plan} {Q : plan → Prop}
  (fin : Ok (Ix rec p g (Ny l (Lx t l g s al),(Bf t g).filter (fun c => !(Lx t l g s al).contains c),He p.partitions (Lx t l g s al),Abi t l g s al)) Q) :
  Ok (Ji rec p g s) Q := by
 have hlen := u.fits.len
 have hn := u.w.len2
 unfold Ji
 rw [ht,AbS t g (by omega),Option.bind_some]
 have hk := Xn t g
 refine Ok.guard (by omega) ?_
 refine Ok.range (fun pre s1 => s1 = (Ny l (Cj l al pre s).2,pre.filter (fun c => !(Cj l al pre s).2.contains c),He p.partitions (Cj l al pre s).2,(Cj l al pre s).1)) ?_ ?_ ?_
 ·have e0 : He p.partitions [] = p.partitions := by apply IMap.ext' <;> intro y <;> simp [He]
  simp only [Cj,List.filter_nil,e0]
  rfl
 ·intro pre x post s1 n he hI hn2
  subst hI
  have hxk : x ∈ Bf t g := by rw [he]; simp
  obtain ⟨e1,e2,e3⟩ := Wi u.w hxk
  have hnd : (pre ++ x :: post).Nodup := by rw [← he]; exact Abk u.w g
  have hxpre : x ∉ pre := fun h => by
   rw [List.nodup_append] at hnd
   exact hnd.2.2 x h x (by simp) rfl
  obtain ⟨s1',s2',s3'⟩ := Ou (l := l) (al := al) pre s
  have hgpre : g ∉ (Cj l al pre s).2 := fun h => by
   have hgk : g ∈ Bf t g := by rw [he]; simp [s2' g h]
   have := (Wi u.w hgk).2.2
   omega
  have hlen16 : (Cj l al pre s).1.length ≤ 16 := by
   have := Tc (Zm (s3' ha)) s1'
   omega
  unfold Nh Ev Iu
  rw [hl,Tv (by omega) hs,Option.bind_some]
  have hget : (He p.partitions (Cj l al pre s).2).get g = al := by
   simp only [He,List.contains_eq_mem,hgpre,decide_false,Bool.false_eq_true,if_false]
   exact hal
  have hcs := (u.fits.cfg x).small
  have hW : Pl (cfg l x).cpus (Cj l al pre s).1 = some ((cfg l x).cpus.all (fun y => (Cj l al pre s).1.contains y)) := AeC (by omega) (by omega)
  have hyes : Vg al (Cj l al pre s).1 (cfg l x) = true → Ok (Option.bind (Rj (Cj l al pre s).1 (cfg l x).cpus) fun r88 => n ((Ny l (Cj l al pre s).2).set x (cfg l x).cpus,pre.filter (fun c => !(Cj l al pre s).2.contains c),(He p.partitions (Cj l al pre s).2).set x true,r88)) Q := by
   intro hc
   rw [AfQ (s3' ha) (by omega) (by omega),Option.bind_some,Ahb,AgF]
   refine hn2 _ ?_
   rw [Yv,if_pos hc]
   simp only
   congr 1
   congr 1
   rw [List.filter_append]
   have h1 : pre.filter (fun c => !((Cj l al pre s).2 ++ [x]).contains c) = pre.filter (fun c => !(Cj l al pre s).2.contains c) := by
    apply List.filter_congr
    intro c hc2
    have : c ≠ x := fun e => hxpre (e ▸ hc2)
    simp [this]
   rw [h1]
   simp
  have hno : ¬ Vg al (Cj l al pre s).1 (cfg l x) = true → Ok (if (pre.filter (fun c => !(Cj l al pre s).2.contains c)).length + 1 ≤ 1073741824 then n (Ny l (Cj l al pre s).2,pre.filter (fun c => !(Cj l al pre s).2.contains c) ++ [x],He p.partitions (Cj l al pre s).2,(Cj l al pre s).1) else none) Q := by
   intro hc
   have hpl : pre.length ≤ (Bf t g).length := by rw [he]; simp
   have := List.length_filter_le (fun c => !(Cj l al pre s).2.contains c) pre
   refine Ok.guard (by omega) (hn2 _ ?_)
   rw [Yv,if_neg hc,List.filter_append]
   have : x ∉ (Cj l al pre s).2 := fun h => hxpre (s2' x h)
   simp [this]
  simp only [hget]
  by_cases c1 : (cfg l x).partition = 1
  ·rw [if_pos (by simpa using c1)]
   cases al with
   | true =>
    rw [if_pos rfl]
    by_cases c3 : 0 < (cfg l x).cpus.length
    ·rw [if_pos (by simpa using c3),hW,Option.bind_some]
     by_cases c4 : (cfg l x).cpus.all (fun y => (Cj l true pre s).1.contains y) = true
     ·rw [if_pos c4]
      by_cases c5 : (cfg l x).cpus.length < (Cj l true pre s).1.length
      ·rw [if_pos (by simpa using c5)]
       exact hyes (cond_iff.mpr ⟨c1,rfl,c3,by simpa using c4,c5⟩)
      ·rw [if_neg (by simpa using c5)]
       exact hno fun h => c5 (cond_iff.mp h).2.2.2.2
     ·rw [if_neg c4,if_neg (by simp)]
      exact hno fun h => c4 (by simpa using (cond_iff.mp h).2.2.2.1)
    ·rw [if_neg (by simpa using c3),if_neg (by simp)]
     exact hno fun h => c3 (cond_iff.mp h).2.2.1
   | false =>
    rw [if_neg (by simp),if_neg (by simp)]
    exact hno fun h => by have := (cond_iff.mp h).2.1; simp at this
  ·rw [if_neg (by simpa using c1),if_neg (by simp)]
   exact hno fun h => c1 (cond_iff.mp h).1
 ·intro s1 hI
  subst hI
  exact fin
theorem AfS (u : UseS t l on) (hs : ∀ x ∈ l,Dx x.settings) {g : Int} {p : plan} (hl : p.configs = l) {ps ms left : List Int} {q : IMap Bool} (h16 : left.length ≤ 16) (hms : ms.length ≤ 64)
  {rec : plan → Int → List Int → Option plan} {Q : plan → Prop} (fin : Ok (Kb rec p g (Ny l ps,ms,q,left) (Nv l ps ms left)) Q) : Ok (Ix rec p g (Ny l ps,ms,q,left)) Q := by
 have hlen := u.fits.len
 have hn := u.w.len2
 unfold Ix
 refine Ok.guard (by simp only; omega) ?_
 refine Ok.range (fun pre s1 => s1 = Nv l ps pre left) (Ahx ps left) ?_ ?_
 ·intro pre x post s1 n he hI hn2
  subst hI
  unfold Mw
  have hcs := (u.fits.cfg x).small
  rw [hl,Tv (by omega) hs,Option.bind_some,Agn hcs.2.2.1 (by omega) (by simp only; omega),Option.bind_some]
  simp only
  rw [Ahh]
  exact hn2 _ rfl
 ·intro s1 hI
  subst hI
  exact fin
theorem Te (w : WfT t) {g c x : Int} (hg : Ei t g = true) (hc : c ∈ Bf t g) (h : Bv t c x = true) : Bv t g x = true ∧ x ≠ g := by
 rw [below_iff] at h ⊢
 obtain ⟨n,hn,hnx⟩ := Gv h
 subst hnx
 obtain ⟨e1,e2,e3⟩ := Wi w hc
 obtain ⟨r,er⟩ := Va w hg
 have hcn : g ∈ upT t c := by
  rw [e1,er]
  simp
 refine ⟨Adu w hcn n hn h,fun e => ?_⟩
 have := up_le w n hn c h
 omega
theorem Aae (w : WfT t) {g x : Int} (hg : Ei t g = true) : Bv t g x = true ↔ x = g ∨ ∃ c ∈ Bf t g,Bv t c x = true := by
 constructor
 ·intro h
  obtain ⟨n,hn,hnx⟩ := Gv (below_iff.mp h)
  subst hnx
  rcases Agg w n hn (below_iff.mp h) with h | ⟨c,hc,h⟩
  ·exact .inl h
  ·exact .inr ⟨c,hc,below_iff.mpr h⟩
 ·rintro (rfl | ⟨c,hc,h⟩)
  ·obtain ⟨r,er⟩ := Va w hg
   rw [below_iff,er]
   simp
  ·exact (Te w hg hc h).1
theorem AbE (w : WfT t) {g c d x : Int} (hc : c ∈ Bf t g) (hd : d ∈ Bf t g) (h1 : Bv t c x = true) (h2 : Bv t d x = true) : c = d := by
 obtain ⟨y,hy,hyp,hyc⟩ := kids_iff.mp hc
 obtain ⟨z,hz,hzp,hzd⟩ := kids_iff.mp hd
 obtain ⟨n,hn,hnx⟩ := Gv (below_iff.mp h1)
 subst hnx
 have := up_one w hy hz hyp hzp n hn (by rw [hyc]; exact below_iff.mp h1) (by rw [hzd]; exact below_iff.mp h2)
 rw [← hyc,← hzd,this]
theorem Tr (w : WfT t) {g : Int} (hg : Ei t g = true) : Bv t g g = true := by
 obtain ⟨r,er⟩ := Va w hg
 rw [below_iff,er]
 simp
def AaX (t : Ae) (l : List Ac) (on : List Int) (g : Int) (rem : Int → Bool) (m : IMap (List Int)) : IMap (List Int) :=
 ⟨fun x => (x == g || (Bf t g).any (fun c => !rem c && Bv t c x)) || m.has x,fun x => if x == g || (Bf t g).any (fun c => !rem c && Bv t c x) then Lq t l on x else m.get x⟩
def Uf (t : Ae) (l : List Ac) (on : List Int) (g : Int) (rem : Int → Bool) (m : IMap Bool) : IMap Bool :=
 ⟨fun x => (Bf t g).any (fun c => !rem c && Bv t c x && x != c && Ds t l on x) || m.has x,fun x => if (Bf t g).any (fun c => !rem c && Bv t c x && x != c && Ds t l on x) then true else m.get x⟩
theorem AhU (w : WfT t) {g n : Int} {rem : Int → Bool} (hg : Ei t g = true) (hn : n ∈ Bf t g) (m : IMap (List Int)) :
  setsA t l on n (AaX t l on g rem m) = AaX t l on g (Bd rem n false) m := by
 have key : ∀ x,(Bv t n x || (x == g || (Bf t g).any (fun c => !rem c && Bv t c x))) = (x == g || (Bf t g).any (fun c => !(Bd rem n false) c && Bv t c x)) := by
  intro x
  rw [Bool.eq_iff_iff]
  simp only [Bool.or_eq_true,beq_iff_eq,List.any_eq_true,Bool.and_eq_true,Bool.not_eq_true',Bd]
  constructor
  ·rintro (h | h | ⟨c,hc,h1,h2⟩)
   ·exact .inr ⟨n,hn,by simp,h⟩
   ·exact .inl h
   ·refine .inr ⟨c,hc,?_,h2⟩
    split
    ·rfl
    ·exact h1
  ·rintro (h | ⟨c,hc,h1,h2⟩)
   ·exact .inr (.inl h)
   ·by_cases e : c = n
    ·subst e; exact .inl h2
    ·rw [if_neg e] at h1
     exact .inr (.inr ⟨c,hc,h1,h2⟩)
 apply IMap.ext'
 ·intro x
  show (Bv t n x || ((x == g || (Bf t g).any (fun c => !rem c && Bv t c x)) || m.has x)) = ((x == g || (Bf t g).any (fun c => !(Bd rem n false) c && Bv t c x)) || m.has x)
  rw [← Bool.or_assoc,key x]
 ·intro x
  show (if Bv t n x = true then Lq t l on x else if (x == g || (Bf t g).any (fun c => !rem c && Bv t c x)) = true then Lq t l on x else m.get x) = (if (x == g || (Bf t g).any (fun c => !(Bd rem n false) c && Bv t c x)) = true then Lq t l on x else m.get x)
  rw [← key x]
  cases Bv t n x <;> simp
theorem Ahy (w : WfT t) {g n : Int} {rem : Int → Bool} (hg : Ei t g = true) (hn : n ∈ Bf t g) (m : IMap Bool) :
  partA t l on n (Uf t l on g rem m) = Uf t l on g (Bd rem n false) m := by
 have key : ∀ x,((Bv t n x && x != n && Ds t l on x) || (Bf t g).any (fun c => !rem c && Bv t c x && x != c && Ds t l on x)) = (Bf t g).any (fun c => !(Bd rem n false) c && Bv t c x && x != c && Ds t l on x) := by
  intro x
  rw [Bool.eq_iff_iff]
  simp only [Bool.or_eq_true,List.any_eq_true,Bool.and_eq_true,Bool.not_eq_true',Bd,bne_iff_ne,ne_eq]
  constructor
  ·rintro (⟨⟨h1,h2⟩,h3⟩ | ⟨c,hc,⟨⟨h1,h2⟩,h3⟩,h4⟩)
   ·exact ⟨n,hn,⟨⟨by simp,h1⟩,h2⟩,h3⟩
   ·refine ⟨c,hc,⟨⟨?_,h2⟩,h3⟩,h4⟩
    split
    ·rfl
    ·exact h1
  ·rintro ⟨c,hc,⟨⟨h1,h2⟩,h3⟩,h4⟩
   by_cases e : c = n
   ·subst e; exact .inl ⟨⟨h2,h3⟩,h4⟩
   ·rw [if_neg e] at h1
    exact .inr ⟨c,hc,⟨⟨h1,h2⟩,h3⟩,h4⟩
 apply IMap.ext'
 ·intro x
  show ((Bv t n x && x != n && Ds t l on x) || ((Bf t g).any (fun c => !rem c && Bv t c x && x != c && Ds t l on x) || m.has x)) = _
  rw [← Bool.or_assoc,key x]
  rfl
 ·intro x
  show (if (Bv t n x && x != n && Ds t l on x) = true then true else if (Bf t g).any (fun c => !rem c && Bv t c x && x != c && Ds t l on x) = true then true else m.get x) = (if (Bf t g).any (fun c => !(Bd rem n false) c && Bv t c x && x != c && Ds t l on x) = true then true else m.get x)
  rw [← key x]
  cases (Bv t n x && x != n && Ds t l on x) <;> simp
theorem Aca (w : WfT t) {g c : Int} (hg : Ei t g = true) (hc : c ∈ Bf t g) : c ≠ 1 := by
 obtain ⟨e1,e2,e3⟩ := Wi w hc
 obtain ⟨x,hx,rfl⟩ := hasN_iff.mp hg
 have := w.id_pos hx
 omega
theorem divide_t (u : UseS t l on) (hs : ∀ x ∈ l,Dx x.settings) : ∀ (n : Nat) (g : Int) (p : plan),(t.next - g).toNat < n → Ei t g = true → p.tree = t → p.configs = l → p.partitions.get g = Jj t l on g →
  (∀ x,Bv t g x = true → x ≠ g → p.partitions.get x = false) →
  Gn n p g (Dn t l on g) = some { tree := t,configs := l,sets := setsA t l on g p.sets,partitions := partA t l on g p.partitions } := by
 intro n
 have w := u.w
 induction n with
 | zero => intro g p h; omega
 | succ n ih =>
  intro g p hlt hg ht hl hal hbl
  have hgn : g < t.next := by
   obtain ⟨x,hx,rfl⟩ := hasN_iff.mp hg
   exact w.next x hx
  obtain ⟨q1,q2,q3,q4⟩ := Afe u hg
  obtain ⟨o1,o2,o3,o4⟩ := AeJ u hg
  have hkl := Xn t g
  have hnl := w.len2
  rw [Gn]
  apply Ok.eq
  refine Agt u hs ht hl hg q1 q4 hal ?_
  have hmsl := List.length_filter_le (fun c => !(Lx t l g (Dn t l on g) (Jj t l on g)).contains c) (Bf t g)
  have o4' : (Abi t l g (Dn t l on g) (Jj t l on g)).length ≤ 16 := o4
  refine AfS u hs hl o4' (by omega) ?_
  unfold Kb
  have hgiven : Nv l (Lx t l g (Dn t l on g) (Jj t l on g)) ((Bf t g).filter (fun c => !(Lx t l g (Dn t l on g) (Jj t l on g)).contains c)) (Abi t l g (Dn t l on g) (Jj t l on g)) =
    ⟨fun c => (Bf t g).contains c,fun c => if (Bf t g).contains c then Dn t l on c else []⟩ := by
   obtain ⟨s1,s2,s3⟩ := Ou (l := l) (al := Jj t l on g) (Bf t g) (Dn t l on g)
   have hpk : ∀ c,c ∈ Lx t l g (Dn t l on g) (Jj t l on g) → c ∈ Bf t g := s2
   apply IMap.ext'
   ·intro c
    simp only [Nv,List.contains_eq_mem,List.mem_filter]
    rw [Bool.eq_iff_iff]
    simp only [Bool.or_eq_true,decide_eq_true_eq,Bool.not_eq_true',decide_eq_false_iff_not]
    constructor
    ·rintro (h | h)
     ·exact h.1
     ·exact hpk c h
    ·intro h
     by_cases hp : c ∈ Lx t l g (Dn t l on g) (Jj t l on g)
     ·exact .inr hp
     ·exact .inl ⟨h,hp⟩
   ·intro c
    by_cases hck : c ∈ Bf t g
    ·have hsk := (Qt (l := l) (on := on) w hg hck).2
     simp only [Nv,List.contains_eq_mem,List.mem_filter,hck,true_and,decide_true,if_true,hsk]
     by_cases hp : c ∈ Lx t l g (Dn t l on g) (Jj t l on g)
     ·simp [hp,Hg]
     ·simp [hp,Hg,Lq]
    ·have hnp : c ∉ Lx t l g (Dn t l on g) (Jj t l on g) := fun h => hck (hpk c h)
     simp [Nv,hck,hnp]
  rw [hgiven]
  have hset : p.sets.set g (Abi t l g (Dn t l on g) (Jj t l on g)) = AaX t l on g (fun c => (Bf t g).contains c) p.sets := by
   apply IMap.ext'
   ·intro x
    simp only [IMap.set,Bd,AaX]
    by_cases e : x = g
    ·simp [e]
    ·have : (Bf t g).any (fun c => !(Bf t g).contains c && Bv t c x) = false := by
      rw [List.any_eq_false]
      intro c hc
      simp [hc]
     rw [if_neg e,this]
     simp [e]
   ·intro x
    simp only [IMap.set,Bd,AaX]
    have : (Bf t g).any (fun c => !(Bf t g).contains c && Bv t c x) = false := by
     rw [List.any_eq_false]
     intro c hc
     simp [hc]
    rw [this]
    by_cases e : x = g
    ·subst e; simp [Lq]
    ·simp [e]
  have hpart : He p.partitions (Lx t l g (Dn t l on g) (Jj t l on g)) = Uf t l on g (fun c => (Bf t g).contains c) (He p.partitions (Hg t l on g)) := by
   have hz : ∀ x,(Bf t g).any (fun c => !(Bf t g).contains c && Bv t c x && x != c && Ds t l on x) = false := by
    intro x
    rw [List.any_eq_false]
    intro c hc
    simp [hc]
   apply IMap.ext'
   ·intro x
    simp only [Uf,hz x,Bool.false_or]
    rfl
   ·intro x
    simp only [Uf,hz x]
    rfl
  refine Ok.of_eq (b := { tree := t,configs := l,sets := setsA t l on g p.sets,partitions := partA t l on g p.partitions }) ?_ rfl
  refine Aft (fun rem s => (∀ c,rem c = true → c ∈ Bf t g) ∧ s = (t.nodes,t.next,l,AaX t l on g rem p.sets,Uf t l on g rem (He p.partitions (Hg t l on g)))) ?_ ?_ Fg (Bf t g) _ _ (Abk w g) (by rw [Em]; omega) (by simp) ⟨by simp,?_⟩
  ·rintro rem s c N hrc ⟨hrk,rfl⟩ hN
   have hck := hrk c hrc
   obtain ⟨e1,e2,e3⟩ := Wi w hck
   unfold Mz
   simp only [List.contains_eq_mem,hck,decide_true,if_true]
   have hpget : (Uf t l on g rem (He p.partitions (Hg t l on g))).get c = Jj t l on c := by
    have hz : (Bf t g).any (fun d => !rem d && Bv t d c && c != d && Ds t l on c) = false := by
     rw [List.any_eq_false]
     intro d hd
     simp only [Bool.and_eq_true,bne_iff_ne,ne_eq,not_and,Bool.not_eq_true]
     intro ⟨⟨_,h1⟩,h2⟩
     exact absurd (AbE w hck hd (Tr w e2) h1) h2
    have h1 : Jj t l on c = (Hg t l on g).contains c := by
     have := Aca w hg hck
     rw [← (Qt (l := l) (on := on) w hg hck).1]
     simp [Jj,this]
    simp only [Uf,hz,Bool.false_eq_true,if_false,He,h1]
    rw [hbl c (Te w hg hck (Tr w e2)).1 (Te w hg hck (Tr w e2)).2]
    cases (Hg t l on g).contains c <;> rfl
   have hpbl : ∀ x,Bv t c x = true → x ≠ c → (Uf t l on g rem (He p.partitions (Hg t l on g))).get x = false := by
    intro x hx hxc
    have hz : (Bf t g).any (fun d => !rem d && Bv t d x && x != d && Ds t l on x) = false := by
     rw [List.any_eq_false]
     intro d hd
     simp only [Bool.and_eq_true,bne_iff_ne,ne_eq,not_and,Bool.not_eq_true,Bool.not_eq_true']
     intro ⟨⟨h0,h1⟩,_⟩
     have := AbE w hck hd hx h1
     subst this
     rw [hrc] at h0
     simp at h0
    have hnp : x ∉ Hg t l on g := by
     intro hxp
     have hxk : x ∈ Bf t g := (Ou (l := l) (al := Jj t l on g) (Bf t g) (Dn t l on g)).2.1 x hxp
     exact hxc (AbE w hck hxk hx (Tr w (Wi w hxk).2.1)).symm
    obtain ⟨b1,b2⟩ := Te w hg hck hx
    simp only [Uf,hz,Bool.false_eq_true,if_false,He,List.contains_eq_mem,hnp,decide_false]
    exact hbl x b1 b2
   have := ih c { tree := t,configs := l,sets := AaX t l on g rem p.sets,partitions := Uf t l on g rem (He p.partitions (Hg t l on g)) } (by omega) e2 rfl rfl hpget hpbl
   rw [this,Option.bind_some]
   simp only
   rw [AhU w hg hck,Ahy w hg hck]
   refine hN _ ⟨fun d hd => ?_,rfl⟩
   simp only [Bd] at hd
   split at hd
   ·simp at hd
   ·exact hrk d hd
  ·rintro s ⟨_,rfl⟩
   unfold Nb
   simp only
   congr 1
   congr 1
   ·apply IMap.ext'
    ·intro x
     show ((x == g || (Bf t g).any (fun c => !false && Bv t c x)) || p.sets.has x) = (Bv t g x || p.sets.has x)
     congr 1
     rw [Bool.eq_iff_iff,Aae w hg]
     simp
    ·intro x
     show (if (x == g || (Bf t g).any (fun c => !false && Bv t c x)) = true then _ else _) = (if Bv t g x = true then _ else _)
     have : (x == g || (Bf t g).any (fun c => !false && Bv t c x)) = Bv t g x := by
      rw [Bool.eq_iff_iff,Aae w hg]
      simp
     rw [this]
   ·have key : ∀ x,((Bf t g).any (fun c => !false && Bv t c x && x != c && Ds t l on x) || (Hg t l on g).contains x) = (Bv t g x && x != g && Ds t l on x) := by
     intro x
     rw [Bool.eq_iff_iff]
     simp only [Bool.or_eq_true,List.any_eq_true,Bool.and_eq_true,bne_iff_ne,ne_eq,Bool.not_false,true_and]
     constructor
     ·rintro (⟨c,hc,⟨h1,h2⟩,h3⟩ | h)
      ·obtain ⟨b1,b2⟩ := Te w hg hc h1
       exact ⟨⟨b1,b2⟩,h3⟩
      ·have hxp : x ∈ Hg t l on g := by simpa using h
       have hxk : x ∈ Bf t g := (Ou (l := l) (al := Jj t l on g) (Bf t g) (Dn t l on g)).2.1 x hxp
       obtain ⟨b1,b2⟩ := Te w hg hxk (Tr w (Wi w hxk).2.1)
       exact ⟨⟨b1,b2⟩,by rw [(Qt (l := l) (on := on) w hg hxk).1]; exact h⟩
     ·rintro ⟨⟨h1,h2⟩,h3⟩
      rcases (Aae w hg).mp h1 with h | ⟨c,hc,h⟩
      ·exact absurd h h2
      ·by_cases e : x = c
       ·subst e
        right
        rw [(Qt (l := l) (on := on) w hg hc).1] at h3
        exact h3
       ·exact .inl ⟨c,hc,⟨h,e⟩,h3⟩
    apply IMap.ext'
    ·intro x
     show ((Bf t g).any (fun c => !false && Bv t c x && x != c && Ds t l on x) || ((Hg t l on g).contains x || p.partitions.has x)) = ((Bv t g x && x != g && Ds t l on x) || p.partitions.has x)
     rw [← Bool.or_assoc,key x]
    ·intro x
     show (if (Bf t g).any (fun c => !false && Bv t c x && x != c && Ds t l on x) = true then true else if (Hg t l on g).contains x = true then true else p.partitions.get x) = (if (Bv t g x && x != g && Ds t l on x) = true then true else p.partitions.get x)
     rw [← key x]
     cases (Bf t g).any (fun c => !false && Bv t c x && x != c && Ds t l on x) <;> simp
  ·rw [ht,hl,hset,hpart]
end Go.Dm

/- Plain theory of processor sets, part 5: what the program answers. -/
namespace Go.Dm
set_option linter.unusedVariables false
set_option linter.unusedSimpArgs false
variable {t : Ae} {l : List Ac} {on : List Int}
theorem Aes (w : WfT t) (x : Int) : Bv t 1 x = Ei t x := by
 rw [Bool.eq_iff_iff,below_iff]
 constructor
 ·intro h
  obtain ⟨n,hn,rfl⟩ := Gv h
  exact hasN_iff.mpr ⟨n,hn,rfl⟩
 ·intro h
  obtain ⟨n,hn,rfl⟩ := hasN_iff.mp h
  refine w.induct (P := fun n => (1 : Int) ∈ upT t n.id) (fun n hn ih => ?_) n hn
  rcases w.p.par n hn with ⟨h1,_⟩ | ⟨_,_,⟨y,hy,hyp⟩,_⟩
  ·rw [h1,root_up w]
   simp
  ·have := ih y hy hyp
   rw [hyp] at this
   rw [w.up hn]
   simp [this]
def Lz (t : Ae) (l : List Ac) (on : List Int) : List Int := (t.nodes.map (·.id)).filter (fun x => x != 1 && Ds t l on x)
theorem Abd (w : WfT t) : Asc (Lz t l on) := by
 refine Wt _ ?_
 rw [Asc,List.pairwise_map]
 exact w.sorted
theorem AhZ {x : Int} : x ∈ Lz t l on ↔ Ei t x = true ∧ x ≠ 1 ∧ Ds t l on x = true := by
 unfold Lz
 rw [List.mem_filter,hasN_iff]
 simp
theorem Aea : (Lz t l on).length ≤ t.nodes.length := by
 unfold Lz
 have := List.length_filter_le (fun x => x != 1 && Ds t l on x) (t.nodes.map (·.id))
 simpa using this
theorem of_t (u : UseS t l on) (hs : ∀ x ∈ l,Dx x.settings) :
  ∃ p,Tj t l on = some p ∧ (∀ x,p.sets.get x = if Ei t x then Lq t l on x else []) ∧ ∀ x,p.partitions.has x = true ↔ x ∈ Lz t l on := by
 have w := u.w
 have h16 := Zb u.set (fun x h => h) u.set.1
 have hroot := Re (l := l) (on := on) w
 have hnx := w.nextLe
 have e := divide_t u hs Fg 1 { tree := t,configs := l,sets := IMap.empty ([] : List Int),partitions := (IMap.empty false).set 1 true } (by rw [Em]; omega) (AgM w) rfl rfl (by simp [IMap.set,Bd,Jj]) (fun x hx hx1 => by simp [IMap.set,Bd,hx1,IMap.empty])
 rw [hroot.1] at e
 unfold Tj Pv
 rw [Qw (by omega),Option.bind_some,e,Option.bind_some]
 refine ⟨_,rfl,fun x => ?_,fun x => ?_⟩
 ·simp only [setsA,IMap.empty,Aes w]
 ·simp only [IMap.del,partA,IMap.set,IMap.empty,Bd,Aes w,AhZ]
  by_cases h1 : x = 1
  ·simp [h1]
  ·simp [h1,and_assoc]
theorem UseS.iff : Usable t l on 16 ↔ UseS t l on := ⟨fun u => ⟨u.fits,u.pos,u.set⟩,fun u => ⟨u.fits,u.pos,u.set⟩⟩
theorem AgA (u : UseS t l on) (hs : ∀ x ∈ l,Dx x.settings) : Jm t l on 16 = some true := by
 have h16 := Zb u.set (fun x h => h) u.set.1
 have hl := u.fits.len
 have hn := u.w.len2
 obtain ⟨b,h1,h2⟩ := Aep (t := t) (l := l) (on := on) (n := 16) u.w.p.names (by omega) (by omega) hs (by omega)
 rw [h1,h2.mpr (UseS.iff.mpr u)]
theorem Cpus_t (u : UseS t l on) (hs : ∀ x ∈ l,Dx x.settings) (g : Int) : Fu t l on g = some (if Ei t g then Lq t l on g else []) := by
 obtain ⟨p,h1,h2,_⟩ := of_t u hs
 unfold Fu
 rw [AgA u hs,Option.bind_some,if_neg (by simp),h1,Option.bind_some,h2 g]
 have hlen : (if Ei t g then Lq t l on g else []).length ≤ 16 := by
  split
  ·rename_i h; exact (AeJ u h).2.2.2
  ·simp
 rw [Qw (by omega),Option.bind_some]
theorem sort_to {L K : List Int} (hn : L.Nodup) (hm : ∀ x,x ∈ L ↔ x ∈ K) (hk : Asc K) (hl : L.length ≤ 1000) : Hz L = some K := by
 obtain ⟨M,h1,h2,h3⟩ := Sort_ok L hl
 have hnd : M.Nodup := h2.nodup_iff.mpr hn
 have ha : Asc M := by
  have := List.pairwise_and_iff.mpr ⟨h3,hnd⟩
  exact this.imp fun ⟨a,b⟩ => by omega
 rw [h1,Aey ha hk fun x => h2.mem_iff.trans (hm x)]
theorem Agj (u : UseS t l on) (hs : ∀ x ∈ l,Dx x.settings) : La t l on = some (Lz t l on) := by
 obtain ⟨p,h1,_,h3⟩ := of_t u hs
 have w := u.w
 have hn := w.len2
 have hal := Aea (t := t) (l := l) (on := on)
 unfold La
 rw [AgA u hs,Option.bind_some,if_neg (by simp),h1,Option.bind_some]
 refine Aft (fun rem s => s.Nodup ∧ (∀ x,rem x = true → x ∈ Lz t l on) ∧ ∀ x,x ∈ s ↔ x ∈ Lz t l on ∧ rem x = false) ?_ ?_ Fg (Lz t l on) _ _ (Zm (Abd w)) (by rw [Em]; omega) (fun n => h3 n) ⟨List.nodup_nil,fun x hx => (h3 x).mp hx,fun x => ?_⟩
 ·rintro rem s n N hr ⟨i1,i2,i3⟩ hN
  unfold Pu
  have hsl : s.length ≤ (Lz t l on).length := Tc i1 fun x hx => ((i3 x).mp hx).1
  rw [if_pos (by omega)]
  have hns : n ∉ s := fun h => by
   have := ((i3 n).mp h).2
   rw [hr] at this
   simp at this
  refine hN _ ⟨?_,fun x hx => ?_,fun x => ?_⟩
  ·rw [List.nodup_append]
   exact ⟨i1,by simp,fun a ha b hb => by simp at hb; subst hb; exact fun e => hns (e ▸ ha)⟩
  ·simp only [Bd] at hx
   split at hx
   ·simp at hx
   ·exact i2 x hx
  ·rw [List.mem_append,List.mem_singleton,i3 x]
   simp only [Bd]
   by_cases e : x = n
   ·subst e
    simp [i2 x hr]
   ·simp [e]
 ·rintro s ⟨i1,_,i3⟩
  unfold Pw
  have hsl : s.length ≤ (Lz t l on).length := Tc i1 fun x hx => ((i3 x).mp hx).1
  have hm : ∀ x,x ∈ s ↔ x ∈ Lz t l on := fun x => by rw [i3 x]; simp
  rw [sort_to i1 hm (Abd w) (by omega),Option.bind_some,if_pos]
  have h2 : (Lz t l on).length ≤ s.length := Tc (Zm (Abd w)) fun x hx => (hm x).mpr hx
  omega
 ·simp only [List.not_mem_nil,false_iff,not_and,Bool.not_eq_false]
  exact fun h => (h3 x).mpr h
theorem Ahl (u : UseS t l on) (hs : ∀ x ∈ l,Dx x.settings) (g : Int) : Ip t l on g = some ((Lz t l on).contains g) := by
 have hn := u.w.len2
 have hal := Aea (t := t) (l := l) (on := on)
 unfold Ip
 rw [Agj u hs,Option.bind_some,Abx _ _ (by omega),Option.bind_some]
theorem Set_ok {d : Ak} (hd : Di d) {n : Int} (n0 : 0 ≤ n) (n1 : n ≤ 1000) : Ok (Ks d n) (fun r => okSet n r.1 ∧ Di r.2) := by
 unfold Ks
 refine Ok.guard (by omega) ?_
 have e : Int.toNat (n - 0) = n.toNat := by simp
 rw [e]
 refine Ok.for (fun j s => Di s.1 ∧ Asc s.2 ∧ ∀ x ∈ s.2,0 ≤ x ∧ x < (j : Int)) ⟨hd,List.Pairwise.nil,fun x hx => by simp at hx⟩ ?_ ?_
 ·rintro j ⟨d,L⟩ m hj ⟨hd,ha,hb⟩ hm
  unfold Uj Mp
  simp only at hd ha hb
  have hlen := AeB ha hb
  refine Ok.bind (Ti hd 3 (by omega)) fun r hd => ?_
  refine Ok.ite (fun _ => Ok.guard (by simp only; omega) (hm _ ⟨hd,?_,?_⟩)) fun _ => hm _ ⟨hd,ha,fun x hx => ⟨(hb x hx).1,by have := (hb x hx).2; omega⟩⟩
  ·exact AdJ ha fun y hy => by have := (hb y hy).2; omega
  ·intro x hx
   rcases List.mem_append.mp hx with h | h
   ·exact ⟨(hb x h).1,by have := (hb x h).2; omega⟩
   ·simp only [List.mem_singleton] at h
    subst h
    omega
 ·rintro ⟨d,L⟩ ⟨hd,ha,hb⟩
  unfold Uk
  exact Ok.ret ⟨⟨ha,fun x hx => ⟨(hb x hx).1,by have := (hb x hx).2; omega⟩⟩,hd⟩
theorem Online_ok {d : Ak} (hd : Di d) {n : Int} (n0 : 1 ≤ n) (n1 : n ≤ 1000) : Ok (Lu d n) (fun r => okSet n r.1 ∧ 0 < r.1.length ∧ Di r.2) := by
 unfold Lu
 refine Ok.bind (Set_ok hd (by omega) n1) fun r ⟨hs,hd⟩ => ?_
 refine Ok.ite (fun c => Ok.ret ⟨hs,by have := of_decide_eq_true c; simp only; omega,hd⟩) fun _ => Ok.guard (by omega) ?_
 have e : Int.toNat (n - 0) = n.toNat := by simp
 rw [e]
 refine Ok.for (fun j s => s.length = j ∧ Asc s ∧ ∀ x ∈ s,0 ≤ x ∧ x < (j : Int)) ⟨rfl,List.Pairwise.nil,fun x hx => by simp at hx⟩ ?_ ?_
 ·rintro j L m hj ⟨hl,ha,hb⟩ hm
  unfold Qs
  refine Ok.guard (by omega) (hm _ ⟨by simp [hl],?_,?_⟩)
  ·exact AdJ ha fun y hy => by have := (hb y hy).2; omega
  ·intro x hx
   rcases List.mem_append.mp hx with h | h
   ·exact ⟨(hb x h).1,by have := (hb x h).2; omega⟩
   ·simp only [List.mem_singleton] at h
    subst h
    omega
 ·rintro L ⟨hl,ha,hb⟩
  unfold Qh
  exact Ok.ret ⟨⟨ha,fun x hx => ⟨(hb x hx).1,by have := (hb x hx).2; omega⟩⟩,by simp only; omega,hd⟩
def newL (t : Ae) : List Ac := t.nodes.map (fun x => { group := x.id,settings := dfS })
theorem AgU (w : WfT t) : Vz t = some (newL t) := by
 have hn := w.len2
 unfold Vz Ly
 rw [Nx w,Option.bind_some,if_neg (by simp),if_pos (by omega)]
 have e : ∀ x : Int,Of [] x = some dfS := fun x => AbY (by simp) (by simp) x
 rw [Sr (p := fun _ => true) (f := fun x : Aj => ({ group := x.id,settings := dfS } : Ac)) (r := Rl) (fun k x s n hs => by
  unfold Ri
  rw [e,Option.bind_some,if_pos hs,if_pos rfl]) (fun _ => rfl) (by simp; omega)]
 unfold Rl
 have e2 : t.nodes.filter (fun _ => true) = t.nodes := List.filter_eq_self.mpr (fun _ _ => rfl)
 rw [e2]
 rfl
theorem AdM (f : FitsS t l) {i : Nat} (hi : i < t.nodes.length) : (l.getD i default).group = (t.nodes.getD i default).id := by
 have hlen := f.len
 have := congrArg (fun q => q[i]?) f.grp
 simp only [List.getElem?_map] at this
 rw [List.getElem?_eq_getElem (by omega),List.getElem?_eq_getElem hi] at this
 simp only [Option.map_some,Option.some.injEq] at this
 rw [Fi (by omega),Fi hi,this]
theorem cfg_at (f : FitsS t l) {i : Nat} (hi : i < t.nodes.length) : cfg l (t.nodes.getD i default).id = (l.getD i default).settings := by
 have hlen := f.len
 have hg := AdM f hi
 unfold cfg
 have hf : l.find? (fun x => x.group == (t.nodes.getD i default).id) = some (l.getD i default) := by
  rw [List.find?_eq_some_iff_getElem]
  refine ⟨by simpa using hg,i,by omega,by rw [Fi (by omega)],fun j hj => ?_⟩
  simp only [Bool.not_eq_true',beq_eq_false_iff_ne,ne_eq]
  intro e
  have h1 := AdM f (i := j) (by omega)
  rw [Fi (by omega)] at h1
  rw [h1,Fi (by omega),Fi hi] at e
  have := List.pairwise_iff_getElem.mp f.wf.sorted j i (by omega) hi hj
  omega
 rw [hf]
 rfl
end Go.Dm

/- Plain theory of processor sets, part 6: the example; who shares what with whom. -/
namespace Go.Dm
set_option linter.unusedVariables false
set_option linter.unusedSimpArgs false
variable {t : Ae} {l : List Ac} {on : List Int}
def exT : Ae := { nodes := [{ id := 1,parent := 0,name := ByteArray.empty,control := 0,kind := 0,owner := 0 },{ id := 2,parent := 1,name := bs [97],control := 0,kind := 0,owner := 0 },{ id := 3,parent := 1,name := bs [98],control := 0,kind := 0,owner := 0 }],next := 4 }
def exS : Al := { pidsMax := 4611686018427387904,weight := 100,quota := 4611686018427387904,period := 100000,burst := 0,clampMin := 0,clampMax := 10000,cpus := [2,3],mems := [],partition := 1,memory := { min := 0,low := 0,high := 4611686018427387904,max := 4611686018427387904,swapMax := 4611686018427387904,together := false },devices := [] }
def exL : List Ac := [{ group := 1,settings := dfS },{ group := 2,settings := exS },{ group := 3,settings := dfS }]
theorem exS_ok : CheckP exS := by
 have e1 : Dp exS.memory = some true := by kernel_rfl
 have e2 : Cz exS.devices = some true := by kernel_rfl
 refine ⟨.inl rfl,⟨by simp [exS],by simp [exS]⟩,?_,by simp [exS],by simp [exS],⟨by simp [exS,Asc],fun x hx => ?_⟩,⟨List.Pairwise.nil,fun x hx => by simp [exS] at hx⟩,by simp [exS],e1,e2⟩
 ·unfold BandP
  simp [exS]
 ·simp only [exS,List.mem_cons,List.not_mem_nil,or_false] at hx
  omega
theorem exS_small : Dx exS := ⟨by simp [exS],by simp [exS],by simp [exS]⟩
theorem ex_use (w : WfT exT) : UseS exT exL [0,1,2,3] := by
 refine ⟨⟨w,rfl,fun x hx => ?_⟩,by simp,⟨by simp [Asc],fun x hx => ?_⟩⟩
 ·simp only [exL,List.mem_cons,List.not_mem_nil,or_false] at hx
  rcases hx with rfl | rfl | rfl
  ·exact AdT
  ·exact exS_ok
  ·exact AdT
 ·simp only [List.mem_cons,List.not_mem_nil,or_false] at hx
  omega
theorem Agb : ∀ x ∈ exL,Dx x.settings := by
 intro x hx
 simp only [exL,List.mem_cons,List.not_mem_nil,or_false] at hx
 rcases hx with rfl | rfl | rfl
 ·exact Acu
 ·exact exS_small
 ·exact Acu
theorem Age : Oi = some true := by
 have k1 : Ox newT 1 (bs [97]) = some ({ nodes := [{ id := 1,parent := 0,name := ByteArray.empty,control := 0,kind := 0,owner := 0 },{ id := 2,parent := 1,name := bs [97],control := 0,kind := 0,owner := 0 }],next := 3 },2,0) := by kernel_rfl
 have k2 : Ox { nodes := [{ id := 1,parent := 0,name := ByteArray.empty,control := 0,kind := 0,owner := 0 },{ id := 2,parent := 1,name := bs [97],control := 0,kind := 0,owner := 0 }],next := 3 } 1 (bs [98]) = some (exT,3,0) := by kernel_rfl
 have w1 := AeF AeZ (p := 1) (s := bs [97]) (r := ({ nodes := [{ id := 1,parent := 0,name := ByteArray.empty,control := 0,kind := 0,owner := 0 },{ id := 2,parent := 1,name := bs [97],control := 0,kind := 0,owner := 0 }],next := 3 },2,0)) (by
  have := AaO AeZ 1 (bs [97])
  rw [k1] at this
  exact (Option.some.inj this).symm) rfl
 have w : WfT exT := AeF w1 (p := 1) (s := bs [98]) (r := (exT,3,0)) (by
  have := AaO w1 1 (bs [98])
  simp only at this
  rw [k2] at this
  exact (Option.some.inj this).symm) rfl
 have u := ex_use w
 have hc := Cpus_t u Agb
 have he := Ahl u Agb
 have c2 : Fu exT exL [0,1,2,3] 2 = some [2,3] := by rw [hc]; kernel_rfl
 have c3 : Fu exT exL [0,1,2,3] 3 = some [0,1] := by rw [hc]; kernel_rfl
 have c1 : Fu exT exL [0,1,2,3] 1 = some [0,1] := by rw [hc]; kernel_rfl
 have e2 : Ip exT exL [0,1,2,3] 2 = some true := by rw [he]; kernel_rfl
 have s1 : Ib [2,3] [2,3] = some true := by kernel_rfl
 have s2 : Ib [0,1] [0,1] = some true := by kernel_rfl
 unfold Oi Mc
 rw [AcY,Option.bind_some,k1,Option.bind_some]
 simp only
 rw [k2,Option.bind_some]
 simp only
 rw [AgU w,Option.bind_some]
 have hl : (newL exT).length = 3 := rfl
 rw [if_pos (by omega),if_pos (by omega),Option.bind_some,if_pos (by omega),if_pos (by omega),Option.bind_some]
 have hset : ∀ x,x = exL → (Option.bind (Fu exT x [0,1,2,3] 2) fun r14 => (Option.bind (Ib r14 [2,3]) fun r15 => (if r15 then (Option.bind (Fu exT x [0,1,2,3] 3) fun r17 => (Option.bind (Ib r17 [0,1]) fun r18 => (if r18 then (Option.bind (Fu exT x [0,1,2,3] 1) fun r20 => (Option.bind (Ib r20 [0,1]) fun r21 => (if r21 then (Option.bind (Ip exT x [0,1,2,3] 2) fun r23 => some r23) else some false))) else some false))) else some false))) = some true := by
  rintro x rfl
  rw [c2,Option.bind_some,s1,Option.bind_some,if_pos rfl,c3,Option.bind_some,s2,Option.bind_some,if_pos rfl,c1,Option.bind_some,s2,Option.bind_some,if_pos rfl,e2,Option.bind_some]
 exact hset _ rfl
theorem Weight_ok {d : Ak} (hd : Di d) : Ok (Lo d) (fun r => (1 ≤ r.1 ∧ r.1 ≤ 10000) ∧ Di r.2) := by
 unfold Lo
 refine Ok.bind (Il hd 1000 (by omega) (by omega)) fun r4 ⟨hd,a0,a1⟩ => Ok.bind (Il hd 8 (by omega) (by omega)) fun r5 ⟨hd,b0,b1⟩ => ?_
 have hw : w64 (1 + r4.1) = 1 + r4.1 := Au (by omega) (by omega)
 rw [hw]
 refine Ok.guard ⟨b0,by simp; omega⟩ (Ok.guard (by simp; omega) (Ok.ret ⟨?_,hd⟩))
 have : r5.1 = 0 ∨ r5.1 = 1 ∨ r5.1 = 2 ∨ r5.1 = 3 ∨ r5.1 = 4 ∨ r5.1 = 5 ∨ r5.1 = 6 ∨ r5.1 = 7 := by omega
 simp only
 rcases this with e | e | e | e | e | e | e | e <;> rw [e] <;> simp <;> omega
theorem Yx : Mi = some dfS := rfl
theorem Xb {a b : Int} {L : List Int} (h : okSet a L) (hab : a ≤ b) : okSet b L := ⟨h.1,fun x hx => ⟨(h.2 x hx).1,by have := (h.2 x hx).2; omega⟩⟩
theorem Ado {d : Ak} (hd : Di d) : Ok (Iv d) (fun r => CheckP r.1 ∧ Dx r.1 ∧ Di r.2) := by
 unfold Iv
 rw [Yx,Option.bind_some]
 have h5 : ∀ (y1 : Ak × Int) (r5 : Int × Ak) (y2 : Ak × Int × Int) (r10 r11 r12 : Int × Ak) (y3 y4 : Ak × List Int) (r19 : Bool × Ak) (y5 : Int),
   (y1.2 = 4611686018427387904 ∨ (0 ≤ y1.2 ∧ y1.2 ≤ 1099511627776)) → (1 ≤ r5.1 ∧ r5.1 ≤ 10000) → (if y2.2.1 = 4611686018427387904 then y2.2.2 = 0 else (1 ≤ y2.2.1 ∧ y2.2.1 ≤ 1000000) ∧ 0 ≤ y2.2.2 ∧ y2.2.2 ≤ y2.2.1) →
   (0 ≤ r10.1 ∧ r10.1 < 9) → (0 ≤ r11.1 ∧ r11.1 < 10001) → (0 ≤ r12.1 ∧ r12.1 < 10001) → okSet 16 y3.2 → okSet 8 y4.2 → (0 ≤ y5 ∧ y5 ≤ 1) → Di r19.2 →
   Ok (Hs dfS y1 r5 y2 r10 r11 r12 y3 y4 r19 y5) (fun r => CheckP r.1 ∧ Dx r.1 ∧ Di r.2) := by
  intro y1 r5 y2 r10 r11 r12 y3 y4 r19 y5 a1 a2 a3 a4 a5 a6 a7 a8 a9 hd
  unfold Hs
  have hw : w64 (1 + r10.1) = 1 + r10.1 := Au (by omega) (by omega)
  rw [hw]
  have e1 : Dp dfS.memory = some true := by kernel_rfl
  have e2 : Cz dfS.devices = some true := by kernel_rfl
  have l1 := a7.len (by omega)
  have l2 := a8.len (by omega)
  exact Ok.ret ⟨⟨a1,a2,⟨by simp only; omega,a3⟩,by simp only; omega,by simp only; omega,a7,a8,a9,e1,e2⟩,⟨by simp only; omega,by simp only; omega,by simp [dfS]⟩,hd⟩
 have h4 : ∀ (y1 : Ak × Int) (r5 : Int × Ak) (y2 : Ak × Int × Int) (r10 r11 r12 : Int × Ak) (y3 y4 : Ak × List Int),
   (y1.2 = 4611686018427387904 ∨ (0 ≤ y1.2 ∧ y1.2 ≤ 1099511627776)) → (1 ≤ r5.1 ∧ r5.1 ≤ 10000) → (if y2.2.1 = 4611686018427387904 then y2.2.2 = 0 else (1 ≤ y2.2.1 ∧ y2.2.1 ≤ 1000000) ∧ 0 ≤ y2.2.2 ∧ y2.2.2 ≤ y2.2.1) →
   (0 ≤ r10.1 ∧ r10.1 < 9) → (0 ≤ r11.1 ∧ r11.1 < 10001) → (0 ≤ r12.1 ∧ r12.1 < 10001) → okSet 16 y3.2 → okSet 8 y4.2 → Di y4.1 →
   Ok (Hp dfS y1 r5 y2 r10 r11 r12 y3 y4) (fun r => CheckP r.1 ∧ Dx r.1 ∧ Di r.2) := by
  intro y1 r5 y2 r10 r11 r12 y3 y4 a1 a2 a3 a4 a5 a6 a7 a8 hd
  unfold Hp
  exact Ok.bind (Ti hd 3 (by omega)) fun r19 hd => Ok.ite (fun _ => h5 _ _ _ _ _ _ _ _ _ _ a1 a2 a3 a4 a5 a6 a7 a8 (by omega) hd) fun _ => h5 _ _ _ _ _ _ _ _ _ _ a1 a2 a3 a4 a5 a6 a7 a8 (by simp [dfS]) hd
 have h3 : ∀ (y1 : Ak × Int) (r5 : Int × Ak) (y2 : Ak × Int × Int) (r10 r11 r12 : Int × Ak) (y3 : Ak × List Int),
   (y1.2 = 4611686018427387904 ∨ (0 ≤ y1.2 ∧ y1.2 ≤ 1099511627776)) → (1 ≤ r5.1 ∧ r5.1 ≤ 10000) → (if y2.2.1 = 4611686018427387904 then y2.2.2 = 0 else (1 ≤ y2.2.1 ∧ y2.2.1 ≤ 1000000) ∧ 0 ≤ y2.2.2 ∧ y2.2.2 ≤ y2.2.1) →
   (0 ≤ r10.1 ∧ r10.1 < 9) → (0 ≤ r11.1 ∧ r11.1 < 10001) → (0 ≤ r12.1 ∧ r12.1 < 10001) → okSet 16 y3.2 → Di y3.1 →
   Ok (Hm dfS y1 r5 y2 r10 r11 r12 y3) (fun r => CheckP r.1 ∧ Dx r.1 ∧ Di r.2) := by
  intro y1 r5 y2 r10 r11 r12 y3 a1 a2 a3 a4 a5 a6 a7 hd
  unfold Hm
  refine Ok.bind (Ti hd 2 (by omega)) fun r16 hd => Ok.ite (fun _ => ?_) fun _ => h4 _ _ _ _ _ _ _ _ a1 a2 a3 a4 a5 a6 a7 ⟨List.Pairwise.nil,fun x hx => by simp [dfS] at hx⟩ hd
  exact Ok.bind (Set_ok hd (n := 4) (by omega) (by omega)) fun r18 ⟨hs,hd⟩ => h4 _ _ _ _ _ _ _ _ a1 a2 a3 a4 a5 a6 a7 (Xb hs (by omega)) hd
 have h2 : ∀ (y1 : Ak × Int) (r5 : Int × Ak) (y2 : Ak × Int × Int),
   (y1.2 = 4611686018427387904 ∨ (0 ≤ y1.2 ∧ y1.2 ≤ 1099511627776)) → (1 ≤ r5.1 ∧ r5.1 ≤ 10000) → (if y2.2.1 = 4611686018427387904 then y2.2.2 = 0 else (1 ≤ y2.2.1 ∧ y2.2.1 ≤ 1000000) ∧ 0 ≤ y2.2.2 ∧ y2.2.2 ≤ y2.2.1) →
   Di y2.1 → Ok (Hu dfS y1 r5 y2) (fun r => CheckP r.1 ∧ Dx r.1 ∧ Di r.2) := by
  intro y1 r5 y2 a1 a2 a3 hd
  unfold Hu
  refine Ok.bind (Il hd 9 (by omega) (by omega)) fun r10 ⟨hd,b0,b1⟩ => Ok.bind (Il hd 10001 (by omega) (by omega)) fun r11 ⟨hd,c0,c1⟩ => Ok.bind (Il hd 10001 (by omega) (by omega)) fun r12 ⟨hd,d0,d1⟩ => ?_
  refine Ok.bind (Ti hd 2 (by omega)) fun r13 hd => Ok.ite (fun _ => ?_) fun _ => h3 _ _ _ _ _ _ _ a1 a2 a3 ⟨b0,b1⟩ ⟨c0,c1⟩ ⟨d0,d1⟩ ⟨List.Pairwise.nil,fun x hx => by simp [dfS] at hx⟩ hd
  exact Ok.bind (Set_ok hd (n := 6) (by omega) (by omega)) fun r15 ⟨hs,hd⟩ => h3 _ _ _ _ _ _ _ a1 a2 a3 ⟨b0,b1⟩ ⟨c0,c1⟩ ⟨d0,d1⟩ (Xb hs (by omega)) hd
 have h1 : ∀ (y1 : Ak × Int),(y1.2 = 4611686018427387904 ∨ (0 ≤ y1.2 ∧ y1.2 ≤ 1099511627776)) → Di y1.1 → Ok (Hq dfS y1) (fun r => CheckP r.1 ∧ Dx r.1 ∧ Di r.2) := by
  intro y1 a1 hd
  unfold Hq
  refine Ok.bind (Weight_ok hd) fun r5 ⟨hw,hd⟩ => Ok.bind (Ti hd 2 (by omega)) fun r6 hd => Ok.ite (fun _ => ?_) fun _ => h2 _ _ _ a1 hw (by simp [dfS]) hd
  refine Ok.bind (Il hd 9 (by omega) (by omega)) fun r8 ⟨hd,b0,b1⟩ => ?_
  have e1 : w64 (1 + r8.1) = 1 + r8.1 := Au (by omega) (by omega)
  have e2 : w64 (1 + r8.1 + 1) = 2 + r8.1 := by rw [Au (by omega) (by omega)]; omega
  rw [e1,e2]
  refine Ok.bind (Il hd (2 + r8.1) (by omega) (by omega)) fun r9 ⟨hd,c0,c1⟩ => h2 _ _ _ a1 hw ?_ hd
  simp only
  rw [if_neg (by omega)]
  omega
 refine Ok.bind (Ti hd 2 (by omega)) fun r2 hd => Ok.ite (fun _ => ?_) fun _ => h1 _ (.inl rfl) hd
 exact Ok.bind (Il hd 6 (by omega) (by omega)) fun r4 ⟨hd,b0,b1⟩ => h1 _ (.inr (by simp only; omega)) hd
theorem AhP {d : Ak} (hd : Di d) (w : WfT t) : Ok (Kz d t) (fun r => FitsS t r.1 ∧ (∀ x ∈ r.1,Dx x.settings) ∧ Di r.2) := by
 have hn := w.len2
 unfold Kz
 refine Ok.guard (by omega) ?_
 refine Ok.range (fun pre s => Di s.1 ∧ s.2.map (·.group) = pre.map (·.id) ∧ ∀ x ∈ s.2,CheckP x.settings ∧ Dx x.settings) ⟨hd,rfl,by simp⟩ ?_ ?_
 ·rintro pre x post ⟨d,L⟩ m he ⟨hd,hg,hc⟩ hm
  simp only at hd hg hc
  have hlen : L.length = pre.length := by
   have := congrArg List.length hg
   simpa using this
  have hpl : pre.length ≤ t.nodes.length := by rw [he]; simp
  have hJ : ∀ (y : Ak × Al),CheckP y.2 → Dx y.2 → Di y.1 → Ok (Ic x (d,L) m y) (fun r => FitsS t r.1 ∧ (∀ x ∈ r.1,Dx x.settings) ∧ Di r.2) := by
   intro y h1 h2 h3
   unfold Ic
   refine Ok.guard (by simp only; omega) (hm _ ⟨h3,by simp [hg],fun z hz => ?_⟩)
   rcases List.mem_append.mp hz with h | h
   ·exact hc z h
   ·simp only [List.mem_singleton] at h
    subst h
    exact ⟨h1,h2⟩
  unfold Pt
  rw [Yx,Option.bind_some]
  refine Ok.bind (Ti hd 2 (by omega)) fun r16 hd => Ok.ite (fun _ => ?_) fun _ => hJ _ AdT Acu hd
  exact Ok.bind (Ado hd) fun r18 ⟨h1,h2,h3⟩ => hJ _ h1 h2 h3
 ·rintro ⟨d,L⟩ ⟨hd,hg,hc⟩
  unfold Py
  exact Ok.ret ⟨⟨w,hg,fun x hx => (hc x hx).1⟩,fun x hx => (hc x hx).2,hd⟩
end Go.Dm

/- Plain theory of processor sets, part 7: who shares what with whom. -/
namespace Go.Dm
set_option linter.unusedVariables false
set_option linter.unusedSimpArgs false
variable {t : Ae} {l : List Ac} {on : List Int}
end Go.Dm

/- The data machine: loops over functions. -/
namespace Go.Dm
def Pf : Go.Obj → Bool
 | .loop _ => true
 | .deferred _ => true
 | _ => false
theorem AeM {P : Program} {g : Operand} {ps : Array Tmp} {assign body : Code} {Q : Exit → Act → World → Prop} {a : Act} {w : World} {gf : Nat} {lb : Array Value}
  (hg : a.eval g = .func (.func gf) #[] lb) (eg : ∀ args w,(callFunc gf args).run P w = .ok (.enter gf args) w)
  (N : Nat) (encs : Nat → Array Value) (hps : ∀ k,(encs k).size = ps.size) (Hd : World → Prop)
  (hseq : ∀ (l : Nat) (J : Nat → World → Prop) (W : World),(∀ k W1,J k W1 → Hd W1) →
   (∀ k W1,k < N → J k W1 → YieldAt (fen none) 0 P l (encs k) W1 fun e W' => e = .returned (.bool true) ∧ J (k + 1) W') → J 0 W →
   CallsIn (fen none) 0 P gf (#[.func (.yield l) #[] #[]] ++ lb) W fun e W' => (∃ v,e = .returned v) ∧ J N W')
  (I : Nat → World → Prop) (hI : ∀ k W,I k W → Hd W)
  (hturn : ∀ k W b o o',I k W → w.heap.size ≤ b → b ≤ w.heap.size + 1 → W.heap[b]? = some o → Pf o = true → Pf o' = true → I k (W.putObj b o'))
  (h0 : ∀ L,I 0 ((w.alloc (.deferred (some []))).alloc (.loop L))) (a₁ : Nat → Act)
  (hassign : ∀ (l k : Nat) (W : World) (K : Act → World → Prop),k < N → K (a₁ k) W →
   assign.wpIn (fen (some l)) 0 P (Exit.then K (fun _ _ _ => False)) { tmps := (ps.zip (encs k)).foldl (fun t (p,v) => t.setIfInBounds p v) a.tmps,defers := [] } W)
  (hbody : ∀ (l k : Nat) (W : World),k < N → I k W → body.wpIn (fen (some l)) 0 P (fun e _ W' => e = .normal ∧ I (k + 1) W' ∧
   ∀ b o,w.heap.size ≤ b → b ≤ w.heap.size + 1 → W.heap[b]? = some o → Pf o = true → W'.heap[b]? = some o) (a₁ k) W)
  (hdone : ∀ W,I N W → W.heap[w.heap.size]? = some (.deferred (some [])) → Q .normal { a with defers := { target := .collected w.heap.size,args := #[] } :: a.defers } W) :
  (Code.rangeFunc g ps assign body).wpIn (fen none) 0 P Q a w := by
 refine wpIn_rangeFunc fun fn hfn => ?_
 obtain ⟨rec,hrec⟩ : ∃ rec : LoopState → Option Code → Loop,rec = fun st pe => { state := st,pending := pe,fn,tmps := a.tmps,params := ps,assign,body,defers := w.heap.size } := ⟨_,rfl⟩
 obtain ⟨W1,hW1⟩ : ∃ W1,(w.alloc (.deferred (some []))).alloc (.loop (rec .ready none)) = W1 := ⟨_,rfl⟩
 have hL1 : W1.heap[w.heap.size + 1]? = some (.loop (rec .ready none)) := by
  rw [← hW1]; have := World.alloc_heap_new (w.alloc (.deferred (some []))) (.loop (rec .ready none)); rwa [World.size_alloc] at this
 have hK1 : W1.heap[w.heap.size]? = some (.deferred (some [])) := by
  rw [← hW1]; exact (RowKit.Below.heap_alloc _ _ _ (by simp)).trans (World.alloc_heap_new w _)
 have hI1 : I 0 W1 := by rw [← hW1]; exact h0 _
 refine ⟨w.heap.size + 1,[{ target := .collected w.heap.size,args := #[] }],W1,{ target := .fn (.func gf) lb,args := #[.func (.yield (w.heap.size + 1)) #[] #[]] },W1,gf,
  #[.func (.yield (w.heap.size + 1)) #[] #[]] ++ lb,W1,?_,?_,fun _ _ => trivial,?_,fun h => by simp [fen,Fence.wide] at h,?_⟩
 ·rw [← hW1,hrec]; exact run_enterLoop_outer _ _ _ _ _
 ·simp only [resolve,hg]
  simp [go_sem]
 ·simp [invoke,go_sem,eg]
 ·refine (hseq (w.heap.size + 1)
   (fun k W => I k W ∧ W.heap[w.heap.size + 1]? = some (.loop (rec .ready none)) ∧ W.heap[w.heap.size]? = some (.deferred (some [])))
   W1 (fun k W h => hI k W h.1) ?_ ⟨hI1,hL1,hK1⟩).mono ?_
  ·rintro k W hk ⟨hi,hl,hd⟩
   have hlt : w.heap.size + 1 < W.heap.size := (Array.getElem?_eq_some_iff.1 hl).1
   have hy := run_yield (P := P) (args := encs k) hl (by rw [hrec]; exact hps k)
   rw [hrec] at hy
   refine ⟨fn,_,assign,body,hy,roundIn_of_wpIn hfn (hassign _ k W _ hk ⟨_,run_beginRound hl (by rw [hrec]),?_⟩)⟩
   have hl2 : (W.putObj (w.heap.size + 1) (.loop { rec .ready none with state := .busy })).heap[w.heap.size + 1]? = some (.loop { rec .ready none with state := .busy }) := World.putObj_heap_same hlt
   have hd2 : (W.putObj (w.heap.size + 1) (.loop { rec .ready none with state := .busy })).heap[w.heap.size]? = some (.deferred (some [])) := (World.putObj_heap_other (by omega)).trans hd
   refine wpIn_mono (hbody _ k _ hk (hturn k W _ _ _ hi (by omega) (Nat.le_refl _) hl rfl rfl)) ?_
   rintro e a3 W3 ⟨rfl,hi3,hk3⟩
   have hl3 := hk3 _ _ (by omega) (Nat.le_refl _) hl2 rfl
   have hd3 := hk3 _ _ (Nat.le_refl _) (by omega) hd2 rfl
   have hr := run_endRound (P := P) none hl3
   refine ⟨_,_,hr,rfl,hturn _ _ _ _ _ hi3 (by omega) (Nat.le_refl _) hl3 rfl rfl,?_,(World.putObj_heap_other (by omega)).trans hd3⟩
   rw [World.putObj_heap_same (Array.getElem?_eq_some_iff.1 hl3).1,hrec]
   rfl
  ·rintro e W2 ⟨⟨v,rfl⟩,hi,hl,hd⟩
   refine ⟨none,W2.putObj (w.heap.size + 1) (.loop (rec .exhausted none)),?_,hdone _ (hturn _ _ _ _ (.loop (rec .exhausted none)) hi (by omega) (Nat.le_refl _) hl rfl rfl) ((World.putObj_heap_other (by omega)).trans hd)⟩
   have := run_endLoop (P := P) hl (by rw [hrec]; simp)
   rw [hrec] at this
   rw [hrec]
   exact this
section
variable {P : Program} {cx : Cx} {β : Bt} {σ : St} {a : Act} {w : World} {Q : Exit → St → Prop}
theorem Rel.turn {W : World} {b : Nat} {o o' : Go.Obj} (h : Rel cx β σ a W) (hb : W.heap[b]? = some o) (ho : Pf o = true) (h0 : cx.w0.heap.size ≤ b) (hd : ∀ d ∈ a.defers,∀ D,d.target = .collected D → D ≠ b) : Rel cx β σ a (W.putObj b o') := by
 have hother : ∀ j,j ≠ b → (W.putObj b o').heap[j]? = W.heap[j]? := fun j hj => World.putObj_heap_other hj
 have hsz : (W.putObj b o').heap.size = W.heap.size := by simp [World.putObj]
 have hS : ∀ j,Ap cx.Av β σ.objs W j → Ap cx.Av β σ.objs (W.putObj b o') j := fun j hj => ⟨by rw [hsz]; exact hj.1,hj.2.1,hj.2.2⟩
 have hsafe : Ap cx.Av β σ.objs W b := h.mark_safe h0 hb (fun _ _ _ e => by rw [e] at ho; simp [Pf] at ho) (fun _ _ e => by rw [e] at ho; simp [Pf] at ho) (fun _ _ _ _ e => by rw [e] at ho; simp [Pf] at ho)
 have hsame : Same (Ap cx.Av β σ.objs W) W (W.putObj b o') := by
  refine ⟨fun j q v _ hc => ?_,fun j es c _ hm => ?_⟩
  ·by_cases hj : j = b
   ·subst hj
    simp only [World.cell?,at_,hb] at hc
    cases o <;> simp [Pf] at ho <;> simp at hc
   ·rw [World.cell?_of_block (hother j hj)]
    exact hc
  ·by_cases hj : j = b
   ·subst hj
    rw [hb] at hm
    injection hm with hm
    subst hm
    simp [Pf] at ho
   ·rw [hother j hj]
    exact hm
 have hlive : ∀ k q j,σ.objs k = some q → q.body.live → (β k).block = some j → (W.putObj b o').heap[j]? = W.heap[j]? := by
  intro k q j hq hl hj
  exact hother j fun e => hsafe.2.2 k q hq hl (e ▸ hj)
 refine ⟨⟨h.nd.nodup,fun d hd' => ?_⟩,h.sz,fun t => (h.sl t).move hS hsame,fun k q hq => ?_,fun k q j hq hl hj => ?_,h.inj,?_,h.avo,h.avlt,h.mle,h.oloc⟩
 ·obtain ⟨D,e,g0,g1⟩ := h.nd.mark d hd'
  exact ⟨D,e,g0,(hother D (hd d hd' D (by rw [e]))).trans g1⟩
 ·by_cases hl : q.body.live
  ·exact (h.ob k q hq).move hS hsame hl fun j hj => hlive k q j hq hl hj
  ·cases hbd : q.body with
   | dead => trivial
   | box cs => simp [hbd,Body.live] at hl
   | row W n f => simp [hbd,Body.live] at hl
   | mp z has f => simp [hbd,Body.live] at hl
   | mq q => simp [hbd,Body.live] at hl
 ·have := h.blk k q j hq hl hj
  exact ⟨by rw [hsz]; exact this.1,this.2⟩
 ·have hk := h.kept
  refine ⟨hk.os,hk.tape,hk.output,by rw [hsz]; exact hk.size,fun j hj hno => ?_⟩
  rw [hother j (by omega)]
  exact hk.block j hj hno
def SlAt (W : World) (v : Value) (L : List Int) : Prop :=
 (L = [] ∧ v = .slice none 0 0) ∨ ∃ b o cap,v = .slice (some (at_ b o)) L.length cap ∧ L.length ≤ cap ∧ ∀ i,i < L.length → W.cell? (at_ b (o + i)) = some (.int .i64 (L.getD i 0))
def HdAt (b : Nat) (L : List Int) (W : World) : Prop := ∃ v,W.cell? (at_ b 0) = some v ∧ SlAt W v L
def AdC (P : Program) (gf : Nat) : Prop :=
 (∀ args w,(callFunc gf args).run P w = .ok (.enter gf args) w) ∧
 ∀ (b : Nat) (L : List Int),L.length < 2 ^ 62 → ∀ (l : Nat) (J : Nat → World → Prop) (W : World),(∀ k W1,J k W1 → HdAt b L W1) →
  (∀ k W1,k < L.length → J k W1 → YieldAt (fen none) 0 P l #[.int .i64 ((L.length - 1 - k : Nat) : Int),.int .i64 (L.getD (L.length - 1 - k) 0)] W1 fun e W' => e = .returned (.bool true) ∧ J (k + 1) W') → J 0 W →
  CallsIn (fen none) 0 P gf (#[.func (.yield l) #[] #[]] ++ #[.pointer (some (at_ b 0))]) W fun e W' => (∃ v,e = .returned v) ∧ J L.length W'
def Qz {S : Type} (step : Int → S → Option S) : List Int → S → Option S
 | [],s => some s
 | x :: r,s => match step x s with
  | some s' => Qz step r s'
  | none => none
theorem Afk {S : Type} {step : Int → S → Option S} : ∀ {l : List Int} {s res : S},Qz step l s = some res → ∃ st : Nat → S,st 0 = s ∧ st l.length = res ∧ ∀ k,k < l.length → step (l.getD k 0) (st k) = some (st (k + 1))
 | [],s,res,h => by
  simp [Qz] at h
  exact ⟨fun _ => s,rfl,h,fun k hk => by simp at hk⟩
 | x :: r,s,res,h => by
  simp only [Qz] at h
  split at h
  case h_2 => simp at h
  rename_i s' hs
  obtain ⟨st,h0,h1,h2⟩ := Afk h
  refine ⟨fun k => match k with | 0 => s | k + 1 => st k,rfl,h1,fun k hk => ?_⟩
  cases k with
  | zero => simpa [h0] using hs
  | succ k => simpa using h2 k (by simpa using hk)
def argsB (slots : Nat → MV) (nt : Nat) (ls : List Nat) (d : Nat) (x : Int) : List MV := (upN nt 0).map fun t => bif Nat.beq t d then .p (vi x) else bif elem t ls then slots t else .any
theorem HdAt.of_rel {k : Nat} {b : Nat} {L : List Int} {fl : Fl} {f : Nat → List PV} (h : Rel cx β σ a w) (hb : β k = .box b) (ho : σ.objs k = some ⟨0,.box [.p (.sl fl 1 L.length f)]⟩) (hf : ∀ i,i < L.length → f i = [vi (L.getD i 0)]) : HdAt b L w := by
 obtain ⟨b',cur,e,g0,g1,g2,g3⟩ := h.ob k _ ho
 rw [hb] at g0
 injection g0 with g0
 subst g0
 obtain ⟨u,q1,q2,q3⟩ := g3 0 _ rfl
 refine ⟨u,by simp [World.cell?,at_,g1,q1],?_⟩
 have hr := q3.inv_p
 generalize hn : L.length = n at hr
 cases hr with
 | slnil fl' W' f' h' => exact .inl ⟨List.length_eq_zero_iff.1 hn,rfl⟩
 | sl fl' W' n' cap bb o f' c hfl hcap hs hlen hc h1 hr =>
  refine .inr ⟨bb,o,cap,by rw [hn],by omega,fun i hi => ?_⟩
  have := hc i 0 (by omega) (by omega)
  rw [show o + (i * 1 + 0) = o + i by omega] at this
  rw [this]
  have h3 := hr i 0 (vi (L.getD i 0)) (by omega) (by rw [hf i hi]; rfl)
  have h4 : c i 0 = .int .i64 (L.getD i 0) := by
   generalize c i 0 = cc at h3
   cases h3
   rfl
  rw [h4]
theorem Rel.unmark (h : Rel cx β σ a w) (W : World) (D : Nat) (h0 : cx.w0.heap.size ≤ D) (hD : w.heap[D]? = some (.deferred (some []))) (hn : ∀ d ∈ a.defers,∀ E,d.target = .collected E → E ≠ D) :
  Rel cx β σ { a with defers := { target := .collected D,args := #[] } :: a.defers } w := by
 refine ⟨⟨?_,fun d hd => ?_⟩,h.sz,h.sl,h.ob,h.blk,h.inj,h.kept,h.avo,h.avlt,h.mle,h.oloc⟩
 ·rw [List.nodup_cons]
  exact ⟨fun hm => hn _ hm D rfl rfl,h.nd.nodup⟩
 ·rcases List.mem_cons.1 hd with e | hd
  ·exact ⟨D,e,h0,hD⟩
  ·exact h.nd.mark d hd
theorem DWP.rangeB {S : Type} {nt tg p1 p2 d aid : Nat} {ty : TypeId} {pos : String} {body : Code} {gf kb : Nat} {L : List Int} {fl : Fl} {f : Nat → List PV} (hrd : cx.rd = none) (hnt : cx.nt = nt) (hit : AdC P gf) (hlen : L.length < 2 ^ 62)
  (slots : Nat → MV) (objs : S → Bg) {step : Int → S → Option S} {s0 res : S} (hm : Qz step L.reverse s0 = some res) (hσ : σ = ⟨slots,objs s0⟩)
  (hg : slots tg = .fn gf [.ref kb 0 0]) (hkb : ∀ s,objs s kb = some ⟨0,.box [.p (.sl fl 1 L.length f)]⟩) (hf : ∀ i,i < L.length → f i = [vi (L.getD i 0)])
  (ks ls : List Nat) (hls : (!elem p1 ls && !elem p2 ls && !elem d ls && Nat.blt p1 nt && Nat.blt p2 nt && Nat.blt d nt && !Nat.beq p1 p2) = true)
  (hround : ∀ x s s',x ∈ L → step x s = some s' → ∃ args outs outs' y wo obl,Tk (objs s) 0 ks (argsB slots nt ls d x) true (.p (.tup [])) outs' [] = some (args,outs,y,wo,obl) ∧ All obl ∧
   BSpec P nt body args outs outs' ∧ All (AcE outs outs') ∧ Df (objs s) wo = objs s')
  (hQ : Q .normal ⟨slots,objs res⟩) :
  DWP P cx (.rangeFunc (.tmp tg) #[p1,p2] (.region aid #[⟨some d,.assign (.tmp p2),ty,pos,#[],none⟩] false) body) σ Q := by
 simp only [Bool.and_eq_true,Bool.not_eq_true'] at hls
 obtain ⟨⟨⟨⟨⟨⟨e1,e2⟩,e3⟩,e4⟩,e5⟩,e6⟩,e7⟩ := hls
 have l1 : p1 < nt := Nat.le_of_ble_eq_true e4
 have l2 : p2 < nt := Nat.le_of_ble_eq_true e5
 have l3 : d < nt := Nat.le_of_ble_eq_true e6
 have n12 : p1 ≠ p2 := fun e => by rw [e,Nat.beq_refl] at e7; simp at e7
 have nel : ∀ {t p : Nat},elem p ls = false → elem t ls = true → t ≠ p := fun h1 h2 e => by rw [e,h1] at h2; simp at h2
 intro β a w hrel
 subst hσ
 rw [hrd]
 have hsl := hrel.sl tg
 simp only [hg] at hsl
 obtain ⟨vs,hv,hl,hc⟩ : ∃ vs : Array Value,a.tmps.getD tg undef = .func (.func gf) #[] vs ∧ vs.size = 1 ∧ RelV β (objs s0) (Ap cx.Av β (objs s0) w) w (vs.getD 0 undef) (.ref kb 0 0) := by
  generalize a.tmps.getD tg undef = v at hsl
  cases hsl with
  | fn _ _ vs hl hr => exact ⟨vs,rfl,by simpa using hl,hr 0 _ rfl⟩
 obtain ⟨b,hbv,hbk⟩ := hc.inv_ref
 have hvs : vs = #[.pointer (some (at_ b 0))] := by
  apply Array.ext
  ·simp [hl]
  ·intro i h1 h2
   have : i = 0 := by omega
   subst this
   rw [Array.getD_eq_getD_getElem?,Array.getElem?_eq_getElem h1] at hbv
   simpa using hbv
 subst hvs
 have hfix : ∀ (β' : Bt) (s : S) (W : World),Rel cx β' ⟨slots,objs s⟩ a W → β' kb = .box b := by
  intro β' s W hr
  have h1 := hr.sl tg
  simp only [hg,hv] at h1
  cases h1 with
  | fn _ _ _ _ hr1 =>
   obtain ⟨b',q1,q2⟩ := (hr1 0 _ rfl).inv_ref
   have q3 := q2.get (hkb s)
   simp at q1
   have : b = b' := by
    have := q1
    simp [at_] at this
    exact this
   rw [q3,this]
 obtain ⟨st,st0,st1,st2⟩ := Afk hm
 rw [List.length_reverse] at st1 st2
 have hdef : ∀ d ∈ a.defers,∀ D,d.target = .collected D → D < w.heap.size := by
  intro d hd D hD
  obtain ⟨E,e,_,g1⟩ := hrel.nd.mark d hd
  rw [e] at hD
  injection hD with hD
  subst hD
  exact (Array.getElem?_eq_some_iff.1 g1).1
 have hw0 := hrel.kept.size
 have hassignR : ∀ (v1 v2 : Value) (K : Act → World → Prop) (l : Nat) (W : World),K { tmps := ((a.tmps.setIfInBounds p1 v1).setIfInBounds p2 v2).setIfInBounds d v2,defers := [] } W →
   (Code.region aid #[⟨some d,.assign (.tmp p2),ty,pos,#[],none⟩] false).wpIn (fen (some l)) 0 P (Exit.then K (fun _ _ _ => False)) { tmps := (a.tmps.setIfInBounds p1 v1).setIfInBounds p2 v2,defers := [] } W := by
  intro v1 v2 K l W hK
  refine wpIn_region ?_
  show wpOpsIn (fen (some l)) 0 P _ _ [0] _ W
  rw [wpOpsIn_cons]
  unfold wpOpIn
  simp only [List.size_toArray,List.length_cons,List.length_nil,List.getElem?_toArray,List.getElem?_cons_zero,Region.wanted,if_true]
  refine Rm rfl ?_
  unfold Oper.wp
  simp only [execOp,Sem.run_bind,Sem.run_pure,Result.andThen_ok,Oper.upon]
  show Exit.then K (fun _ _ _ => False) .normal _ W
  have e : Act.eval { tmps := (a.tmps.setIfInBounds p1 v1).setIfInBounds p2 v2,defers := [] } (.tmp p2) = v2 := by
   show ((a.tmps.setIfInBounds p1 v1).setIfInBounds p2 v2).getD p2 undef = v2
   have : p2 < a.tmps.size := by rw [hrel.sz,hnt]; exact l2
   simp [Array.getD_eq_getD_getElem?,this]
  simp only [Exit.then,Act.put,e]
  exact hK
 refine AeM (gf := gf) (lb := #[.pointer (some (at_ b 0))]) hv hit.1 L.length (fun k => #[.int .i64 ((L.length - 1 - k : Nat) : Int),.int .i64 (L.getD (L.length - 1 - k) 0)]) (fun _ => rfl) (HdAt b L)
  (hit.2 b L hlen) (fun k W => ∃ β,Rel cx β ⟨slots,objs (st k)⟩ a W) (fun k W ⟨β',hr⟩ => HdAt.of_rel hr (hfix β' _ W hr) (hkb _) hf) ?_ ?_
  (fun k => { tmps := ((a.tmps.setIfInBounds p1 (.int .i64 ((L.length - 1 - k : Nat) : Int))).setIfInBounds p2 (.int .i64 (L.getD (L.length - 1 - k) 0))).setIfInBounds d (.int .i64 (L.getD (L.length - 1 - k) 0)),defers := [] }) ?_ ?_ ?_
 ·rintro k W j o o' ⟨β',hr⟩ h1 h2 h3 h4 h5
  exact ⟨β',hr.turn h3 h4 (by omega) fun d hd D hD => by have := hdef d hd D hD; omega⟩
 ·intro Lp
  obtain ⟨r1,_⟩ := hrel.free (w.alloc (.deferred (some []))) (.deferred (some [])) ⟨rfl,rfl,rfl,rfl⟩
  obtain ⟨r2,_⟩ := r1.free ((w.alloc (.deferred (some []))).alloc (.loop Lp)) (.loop Lp) ⟨rfl,rfl,rfl,rfl⟩
  exact ⟨β,by rw [st0]; exact r2⟩
 ·intro l k W K hk hK
  have := hassignR (.int .i64 ((L.length - 1 - k : Nat) : Int)) (.int .i64 (L.getD (L.length - 1 - k) 0)) K l W hK
  have e : ∀ v1 v2 : Value,(#[p1,p2].zip #[v1,v2]).foldl (fun t (x : Nat × Value) => match x with | (p,v) => t.setIfInBounds p v) a.tmps = (a.tmps.setIfInBounds p1 v1).setIfInBounds p2 v2 := fun v1 v2 => by simp
  rw [e]
  exact this
 ·rintro l k W hk ⟨β',hr⟩
  have hstep := st2 k hk
  have hix : L.reverse.getD k 0 = L.getD (L.length - 1 - k) 0 := by
   rw [List.getD_eq_getElem?_getD,List.getD_eq_getElem?_getD,List.getElem?_reverse hk]
  rw [hix] at hstep
  have hmem : L.getD (L.length - 1 - k) 0 ∈ L := by
   have hlt : L.length - 1 - k < L.length := by omega
   rw [List.getD_eq_getElem?_getD,List.getElem?_eq_getElem hlt]
   exact List.getElem_mem _
  generalize hxx : L.getD (L.length - 1 - k) 0 = x at hstep hmem
  obtain ⟨args,outs,outs',y,wo,obl,c1,c2,c3,c4,c5⟩ := hround x _ _ hmem hstep
  obtain ⟨tm,htm⟩ : ∃ tm,((a.tmps.setIfInBounds p1 (.int .i64 ((L.length - 1 - k : Nat) : Int))).setIfInBounds p2 (.int .i64 x)).setIfInBounds d (.int .i64 x) = tm := ⟨_,rfl⟩
  rw [htm]
  have htsz : tm.size = nt := by rw [← htm]; simp [hr.sz,hnt]
  have hlenA : (argsB slots nt ls d x).length = nt := by simp [argsB,Tz]
  obtain ⟨Av',β0,hpre,hpost⟩ := AfW (res := .p (.tup [])) (news := []) hr (fun _ _ h => h) (fun j hj => by simp at hj) (fun _ _ => rfl) c1 c2 (Afx _ _ c4) tm (by rw [htsz,hlenA]) (by
   intro t z hz
   have ht : t < nt := by rw [← hlenA]; exact (List.getElem?_eq_some_iff.1 hz).1
   simp only [argsB] at hz
   rw [List.getElem?_map,upN_get _ _ _ ht] at hz
   simp only [Nat.zero_add,Option.map_some,Option.some.injEq] at hz
   have hta : t < a.tmps.size := by rw [hr.sz,hnt]; exact ht
   cases hb1 : Nat.beq t d with
   | true =>
    rw [hb1,cond_true] at hz
    subst hz
    have := Nat.eq_of_beq_eq_true hb1
    subst this
    have e : tm.getD t undef = .int .i64 x := by rw [← htm]; simp [Array.getD_eq_getD_getElem?,hta]
    rw [e]
    exact .mk_v rfl
   | false =>
    rw [hb1,cond_false] at hz
    cases hb2 : elem t ls with
    | false => rw [hb2,cond_false] at hz; subst hz; exact .any _
    | true =>
     rw [hb2,cond_true] at hz
     subst hz
     have e : tm.getD t undef = a.tmps.getD t undef := by
      rw [← htm]
      simp only [Array.getD_eq_getD_getElem?]
      rw [Array.getElem?_setIfInBounds_ne (Ne.symm (nel e3 hb2)),Array.getElem?_setIfInBounds_ne (Ne.symm (nel e2 hb2)),Array.getElem?_setIfInBounds_ne (Ne.symm (nel e1 hb2))]
     rw [e]
     exact hr.sl t)
  refine wpIn_mono (c3 l W Av' β0 tm htsz hpre) ?_
  rintro e _ W' ⟨rfl,v,β1,hp⟩
  obtain ⟨β2,q1,_,q3⟩ := hpost W' v β1 hp
  rw [c5] at q1
  refine ⟨rfl,⟨β2,q1⟩,fun j o h1 h2 h3 h4 => ?_⟩
  rw [q3 j (hr.mark_safe (by omega) h3 (fun _ _ _ e => by rw [e] at h4; simp [Pf] at h4) (fun _ _ e => by rw [e] at h4; simp [Pf] at h4) (fun _ _ _ _ e => by rw [e] at h4; simp [Pf] at h4))]
  exact h3
 ·rintro W ⟨β',hr⟩ hD
  rw [st1] at hr
  exact ⟨β',_,hQ,hr.unmark W _ hw0 hD fun d hd E hE => by have := hdef d hd E hE; omega⟩
def setA (k : Nat) (o : Obj) : List (Nat × Obj) → List (Nat × Obj)
 | [] => []
 | (j,q) :: r => bif Nat.beq j k then (j,o) :: r else (j,q) :: setA k o r
def setAs : List (Nat × Obj) → List (Nat × Obj) → List (Nat × Obj)
 | ob,[] => ob
 | ob,(k,o) :: r => setAs (setA k o ob) r
theorem Afp (k : Nat) (o : Obj) : ∀ ob : List (Nat × Obj),Cc (setA k o ob) = Cc ob
 | [] => rfl
 | (j,q) :: r => by
  simp only [setA]
  cases Nat.beq j k with
  | true => rfl
  | false => simp [Cc,Afp k o r]
theorem AdN {k : Nat} {o : Obj} : ∀ {ob : List (Nat × Obj)},elem k (Cc ob) = true → assoc (setA k o ob) = Bx (assoc ob) k o
 | [],h => by simp [Cc,elem] at h
 | (j,q) :: r,h => by
  funext i
  simp only [setA]
  cases hb : Nat.beq j k with
  | true =>
   have := Nat.eq_of_beq_eq_true hb
   subst this
   simp only [cond_true,assoc,Bx]
   cases Nat.beq i j <;> rfl
  | false =>
   simp only [cond_false,assoc,Bx]
   have h' : elem k (Cc r) = true := by
    simp only [Cc,elem,Bool.or_eq_true] at h
    rcases h with h | h
    ·have := Nat.eq_of_beq_eq_true h
     subst this
     rw [Nat.beq_refl] at hb
     simp at hb
    ·exact h
   have ih := congrFun (AdN (o := o) h') i
   simp only [Bx] at ih
   rw [ih]
   cases h1 : Nat.beq i j with
   | true =>
    have := Nat.eq_of_beq_eq_true h1
    subst this
    rw [hb]
    rfl
   | false => rfl
theorem Adj : ∀ {wo : List (Nat × Obj)} {ob : List (Nat × Obj)},(Cc wo).all (fun k => elem k (Cc ob)) = true → Df (assoc ob) wo = assoc (setAs ob wo)
 | [],ob,_ => rfl
 | (k,o) :: r,ob,h => by
  simp only [Cc,List.all_cons,Bool.and_eq_true] at h
  simp only [Df,setAs]
  rw [← AdN h.1]
  exact Adj (by rw [Afp]; exact h.2)
def roundE (sl : List (Nat × MV)) (ob : List (Nat × Obj)) (nt : Nat) (ls : List Nat) (d : Nat) (x : Int) (ks : List Nat) (outs' : List Body) : Option (List MV × List Body × List Prop × List (Nat × Obj)) :=
 match Tk (assoc ob) 0 ks (argsB (fun t => (assoc sl t).getD .any) nt ls d x) true (.p (.tup [])) outs' [] with
 | some (args,outs,_,wo,obl) => bif (Cc wo).all (fun k => elem k (Cc ob)) then some (args,outs,obl ++ AcE outs outs',setAs ob wo) else none
 | none => none
theorem DW.rangeB {S : Type} {nt tg p1 p2 d aid : Nat} {ty : TypeId} {pos : String} {body : Code} {gf kb : Nat} {L : List Int} {r : List Code} {Q : Exit → St → Prop} (hrd : cx.rd = none) (hnt : cx.nt = nt) (hit : AdC P gf) (hlen : L.length < 2 ^ 62)
  (sl : List (Nat × MV)) (obs : S → List (Nat × Obj)) {step : Int → S → Option S} {s0 res : S} (hm : Qz step L.reverse s0 = some res) (ks ls : List Nat)
  (hkb : ∀ s,assoc (obs s) kb = some ⟨0,.box [.p (Mf 1 (fun x => [vi x]) 0 L)]⟩)
  (hround : ∀ x s s',x ∈ L → step x s = some s' → ∃ args outs outs' obl,roundE sl (obs s) nt ls d x ks outs' = some (args,outs,obl,obs s') ∧ All obl ∧ BSpec P nt body args outs outs')
  (hQ : DW P cx r (Af sl (obs res)) Q)
  (hg : assoc sl tg = some (.fn gf [.ref kb 0 0]) := by kernel_rfl) (hls : (!elem p1 ls && !elem p2 ls && !elem d ls && Nat.blt p1 nt && Nat.blt p2 nt && Nat.blt d nt && !Nat.beq p1 p2) = true := by kernel_rfl) (hσ : σ = Af sl (obs s0) := by rfl) :
  DW P cx (.rangeFunc (.tmp tg) #[p1,p2] (.region aid #[⟨some d,.assign (.tmp p2),ty,pos,#[],none⟩] false) body :: r) σ Q := by
 refine DWP.rangeB (Q := KQ P cx r Q) (kb := kb) (fl := .unk) (f := elems (fun x => [vi x]) 0 L) hrd hnt hit hlen (fun t => (assoc sl t).getD .any) (fun s => assoc (obs s)) hm hσ (by rw [hg]; rfl) hkb (fun _ _ => rfl) ks ls hls ?_ hQ
 intro x s s' hx hs
 obtain ⟨args,outs,outs',obl,h1,h2,h3⟩ := hround x s s' hx hs
 unfold roundE at h1
 split at h1
 case h_2 => simp at h1
 rename_i args0 outs0 y wo obl0 hce
 cases hb : (Cc wo).all (fun k => elem k (Cc (obs s))) with
 | false => rw [hb] at h1; simp at h1
 | true =>
  rw [hb,cond_true] at h1
  simp only [Option.some.injEq,Prod.mk.injEq] at h1
  obtain ⟨rfl,rfl,rfl,h4⟩ := h1
  rw [All_append] at h2
  exact ⟨_,_,outs',y,wo,obl0,hce,h2.1,h3,h2.2,by rw [Adj hb,h4]⟩
def subC : List Nat → Code → Option Code
 | [],c => some c
 | 0 :: r,.seq x _ => subC r x
 | 1 :: r,.seq _ y => subC r y
 | 0 :: r,.block _ c => subC r c
 | 0 :: r,.cond _ x _ => subC r x
 | 1 :: r,.cond _ _ y => subC r y
 | 0 :: r,.loop c => subC r c
 | 0 :: r,.rangeFunc _ _ _ b => subC r b
 | _,_ => none
end
end Go.Dm

/- Models of Go types and functions, printed by a program. -/
namespace Go.Dm
set_option linter.unusedVariables false
def Dl (p0 : Int) (p1 : Int) (p2 : Int) : Option Bool := (some ((decide (p0 ≥ p1)) && (decide (p0 ≤ p2))))
def Kk (n1 : Unit → Option Bool) (y3 : Bool) : Option Bool := (if y3 then (some false) else (n1 ()))
def Yj (p0 : List Int) (p1 : Int) (k1 : Nat) (x1 : Int) (s1 : Unit) (n1 : Unit → Option Bool) : Option Bool := (if (decide (x1 < 0)) then ((Kk n1) true) else (if (decide (x1 ≥ p1)) then ((Kk n1) true) else (if (decide (((k1 : Nat) : Int) > 0)) then (if 0 ≤ (w64 (((k1 : Nat) : Int) - 1)) ∧ (w64 (((k1 : Nat) : Int) - 1)) < ((p0.length : Nat) : Int) then ((Kk n1) (decide ((p0.getD (Int.toNat (w64 (((k1 : Nat) : Int) - 1))) 0) ≥ x1))) else none) else ((Kk n1) false))))
def AbL (s1 : Unit) : Option Bool := (some true)
def Im (p0 : List Int) (p1 : Int) : Option Bool := (if p0.length ≤ 9223372036854775807 then Ce (Yj p0 p1) AbL p0 0 () else none)
def Aw (y2 : Bool) : Option Bool := (some y2)
def Mg (p0 : Al) (y1 : Int) : Option Bool := (if (p0.pidsMax == 4611686018427387904) then (Option.bind (Dl p0.weight 1 10000) fun r44 => (if r44 then (if (p0.quota == 4611686018427387904) then (Option.bind (Dl p0.period 1 1000000) fun r66 => (if r66 then (Option.bind (Dl p0.burst 0 y1) fun r68 => (if r68 then (Option.bind (Dl p0.clampMin 0 10000) fun r70 => (if r70 then (Option.bind (Dl p0.clampMax 0 10000) fun r72 => (if r72 then (Option.bind (Im p0.cpus 16) fun r74 => (if r74 then (Option.bind (Im p0.mems 8) fun r76 => (if r76 then (Option.bind (Dl p0.partition 0 1) fun r78 => (if r78 then (Option.bind (Dp p0.memory) fun r80 => (if r80 then (Option.bind (Cz p0.devices) fun r82 => (Aw r82)) else (Aw false))) else (Aw false))) else (Aw false))) else (Aw false))) else (Aw false))) else (Aw false))) else (Aw false))) else (Aw false))) else (Option.bind (Dl p0.quota 1 1000000) fun r47 => (if r47 then (Option.bind (Dl p0.period 1 1000000) fun r49 => (if r49 then (Option.bind (Dl p0.burst 0 y1) fun r51 => (if r51 then (Option.bind (Dl p0.clampMin 0 10000) fun r53 => (if r53 then (Option.bind (Dl p0.clampMax 0 10000) fun r55 => (if r55 then (Option.bind (Im p0.cpus 16) fun r57 => (if r57 then (Option.bind (Im p0.mems 8) fun r59 => (if r59 then (Option.bind (Dl p0.partition 0 1) fun r61 => (if r61 then (Option.bind (Dp p0.memory) fun r63 => (if r63 then (Option.bind (Cz p0.devices) fun r65 => (Aw r65)) else (Aw false))) else (Aw false))) else (Aw false))) else (Aw false))) else (Aw false))) else (Aw false))) else (Aw false))) else (Aw false))) else (Aw false)))) else (Aw false))) else (Option.bind (Dl p0.pidsMax 0 1099511627776) fun r3 => (if r3 then (Option.bind (Dl p0.weight 1 10000) fun r5 => (if r5 then (if (p0.quota == 4611686018427387904) then (Option.bind (Dl p0.period 1 1000000) fun r27 => (if r27 then (Option.bind (Dl p0.burst 0 y1) fun r29 => (if r29 then (Option.bind (Dl p0.clampMin 0 10000) fun r31 => (if r31 then (Option.bind (Dl p0.clampMax 0 10000) fun r33 => (if r33 then (Option.bind (Im p0.cpus 16) fun r35 => (if r35 then (Option.bind (Im p0.mems 8) fun r37 => (if r37 then (Option.bind (Dl p0.partition 0 1) fun r39 => (if r39 then (Option.bind (Dp p0.memory) fun r41 => (if r41 then (Option.bind (Cz p0.devices) fun r43 => (Aw r43)) else (Aw false))) else (Aw false))) else (Aw false))) else (Aw false))) else (Aw false))) else (Aw false))) else (Aw false))) else (Aw false))) else (Option.bind (Dl p0.quota 1 1000000) fun r8 => (if r8 then (Option.bind (Dl p0.period 1 1000000) fun r10 => (if r10 then (Option.bind (Dl p0.burst 0 y1) fun r12 => (if r12 then (Option.bind (Dl p0.clampMin 0 10000) fun r14 => (if r14 then (Option.bind (Dl p0.clampMax 0 10000) fun r16 => (if r16 then (Option.bind (Im p0.cpus 16) fun r18 => (if r18 then (Option.bind (Im p0.mems 8) fun r20 => (if r20 then (Option.bind (Dl p0.partition 0 1) fun r22 => (if r22 then (Option.bind (Dp p0.memory) fun r24 => (if r24 then (Option.bind (Cz p0.devices) fun r26 => (Aw r26)) else (Aw false))) else (Aw false))) else (Aw false))) else (Aw false))) else (Aw false))) else (Aw false))) else (Aw false))) else (Aw false))) else (Aw false)))) else (Aw false))) else (Aw false))))
def Pp (p0 : Al) : Option Bool := (if (p0.quota == 4611686018427387904) then ((Mg p0) 0) else ((Mg p0) p0.quota))
def Qp (n1 : Unit → Option Bool) (y4 : Bool) : Option Bool := (if y4 then (some false) else (n1 ()))
def Yo (p0 : Ae) (k1 : Nat) (x1 : Ac) (s1 : Unit) (n1 : Unit → Option Bool) : Option Bool := (if k1 < p0.nodes.length then (if (x1.group != (p0.nodes.getD k1 (default : Aj)).id) then ((Qp n1) true) else (Option.bind (Pp x1.settings) fun r21 => ((Qp n1) (!r21)))) else none)
def AbV (s1 : Unit) : Option Bool := (some true)
def Qm (p0 : Ae) (p1 : List Ac) (y1 : Bool) : Option Bool := (if y1 then (some false) else (if p1.length ≤ 9223372036854775807 then Ce (Yo p0) AbV p1 0 () else none))
def Uc (p0 : Ae) (p1 : List Ac) : Option Bool := (Option.bind (Kf p0) fun r1 => (if (!r1) then ((Qm p0 p1) true) else ((Qm p0 p1) (((p1.length : Nat) : Int) != ((p0.nodes.length : Nat) : Int)))))
def Sa (s1 : (List Ac) × Int) (n1 : ((List Ac) × Int) → Option ((List Ac) × Int)) (y2 : List Ac) : Option ((List Ac) × Int) := (n1 (y2,(w64 (s1.2 + 1))))
def Aac (p2 : Int) (p3 : Al) (s1 : (List Ac) × Int) (n1 : ((List Ac) × Int) → Option ((List Ac) × Int)) : Option ((List Ac) × Int) := (if (decide (s1.2 < ((s1.1.length : Nat) : Int))) then (if 0 ≤ s1.2 ∧ s1.2 < ((s1.1.length : Nat) : Int) then (if (Int.toNat s1.2) < s1.1.length then (if ((s1.1.getD (Int.toNat s1.2) (default : Ac)).group == p2) then (Option.bind (Ms p3) fun r25 => (if 0 ≤ s1.2 ∧ s1.2 < ((s1.1.length : Nat) : Int) then (if (Int.toNat s1.2) < s1.1.length then ((Sa s1 n1) (s1.1.set (Int.toNat s1.2) ({ group := (s1.1.getD (Int.toNat s1.2) (default : Ac)).group,settings := r25 } : Ac))) else none) else none)) else ((Sa s1 n1) s1.1)) else none) else none) else (some (s1.1,0)))
def Vp (p0 : Ae) (p1 : List Ac) (p2 : Int) (p3 : Al) : Option ((List Ac) × Int) := (Option.bind (Uc p0 p1) fun r1 => (if (!r1) then (some ([],1)) else (Option.bind (Mv p0 p2) fun r3 => (if (!r3) then (some ([],4)) else (Option.bind (Pp p3) fun r5 => (if (!r5) then (some ([],3)) else (Option.bind (Ly p0 p1) fun r7 => (whileO (Aac p2 p3) Fg (r7,0)))))))))
def Md (p0 : List Int) : Option (List Int) := (some p0)
def Pa (p0 : List Ac) (p1 : List Int) (p2 : Int) : Option ((List Ac) × (List Int)) := (Option.bind (Mb p0 p2) fun r1 => (Option.bind (Nz r1.mems p1) fun r2 => (some (p0,r2))))
def Po (p0 : Ae) (p1 : List Ac) (p2 : List Int) (p3 : Int) : Option (List Int) := (Option.bind (Jm p0 p1 p2 8) fun r1 => (if (!r1) then (some []) else (Option.bind (Lw p0 p3) fun r3 => (if (((r3.length : Nat) : Int) == 0) then (some []) else (Option.bind (Dz p2) fun r5 => (if 0 ≤ (w64 (((r3.length : Nat) : Int) - 1)) ∧ (w64 (((r3.length : Nat) : Int) - 1)) ≤ ((r3.length : Nat) : Int) then (Option.bind (Md (r3.take (Int.toNat (w64 (((r3.length : Nat) : Int) - 1))))) fun r9 => (if r9.length < 4611686018427387904 then (Option.bind (Qz (fun (x : Int) (s : (List Ac) × (List Int)) => (Pa s.1 s.2 x)) (List.reverse r9) (p1,r5)) fun r10 => (some r10.2)) else none)) else none))))))
noncomputable def Ie (n1 : Unit → Option Bool) (y7 : Bool) : Option Bool := (if y7 then (some false) else (n1 ()))
noncomputable def Ih (r5 : Ae × Ak) (r6 : (List Ac) × Ak) (r7 : (List Int) × Ak) (r8 : Int × Ak) (r13 : (List Ac) × Int) (x1 : Aj) (n1 : Unit → Option Bool) (y6 : Bool) : Option Bool := (if y6 then (some false) else (Option.bind (Lt r5.1 (r5.1.nodes.getD (Int.toNat r8.1) (default : Aj)).id) fun r64 => (Option.bind (Qi r64 x1.id) fun r65 => (if (!r65) then (Option.bind (Po r5.1 r6.1 r7.1 x1.id) fun r67 => (Option.bind (Po r5.1 r13.1 r7.1 x1.id) fun r68 => (Option.bind (Ib r67 r68) fun r69 => ((Ie n1) (!r69))))) else ((Ie n1) false)))))
noncomputable def Ps (r5 : Ae × Ak) (r6 : (List Ac) × Ak) (r7 : (List Int) × Ak) (r8 : Int × Ak) (r13 : (List Ac) × Int) (y1 : List Int) (k1 : Nat) (x1 : Aj) (s1 : Unit) (n1 : Unit → Option Bool) : Option Bool := (Option.bind (Qi y1 x1.id) fun r58 => (if (!r58) then (Option.bind (Fu r5.1 r6.1 r7.1 x1.id) fun r60 => (Option.bind (Fu r5.1 r13.1 r7.1 x1.id) fun r61 => (Option.bind (Ib r60 r61) fun r62 => ((Ih r5 r6 r7 r8 r13 x1 n1) (!r62))))) else ((Ih r5 r6 r7 r8 r13 x1 n1) false)))
noncomputable def Us (s1 : Unit) : Option Bool := (Option.bind Oi fun r71 => (some r71))
noncomputable def Ig (r5 : Ae × Ak) (r6 : (List Ac) × Ak) (r7 : (List Int) × Ak) (r8 : Int × Ak) (r13 : (List Ac) × Int) (y1 : List Int) : Option Bool := (if r5.1.nodes.length ≤ 9223372036854775807 then Ce (Ps r5 r6 r7 r8 r13 y1) Us r5.1.nodes 0 () else none)
noncomputable def Kv (p0 : List Int) : Option Bool := (Option.bind (Wv p0) fun r1 => (if (!r1) then (Option.bind Oi fun r3 => (some r3)) else (Option.bind (Acs p0) fun r4 => (Option.bind (Nl r4 8) fun r5 => (Option.bind (Kz r5.2 r5.1) fun r6 => (Option.bind (Lu r6.2 6) fun r7 => (Option.bind (Cp r7.2 ((r5.1.nodes.length : Nat) : Int)) fun r8 => (if 0 ≤ r8.1 ∧ r8.1 < ((r5.1.nodes.length : Nat) : Int) then (Option.bind (Iv r8.2) fun r12 => (Option.bind (Vp r5.1 r6.1 (r5.1.nodes.getD (Int.toNat r8.1) (default : Aj)).id r12.1) fun r13 => (if (r13.2 != 0) then (some false) else (Option.bind (Lt r5.1 (r5.1.nodes.getD (Int.toNat r8.1) (default : Aj)).id) fun r15 => (if ((r5.1.nodes.getD (Int.toNat r8.1) (default : Aj)).id != 1) then (Option.bind (Lt r5.1 (r5.1.nodes.getD (Int.toNat r8.1) (default : Aj)).parent) fun r17 => ((Ig r5 r6 r7 r8 r13) r17)) else ((Ig r5 r6 r7 r8 r13) r15)))))) else none))))))))
end Go.Dm

/- Plain theory of processor sets, part 8: memory nodes; all sets; what lies apart. -/
namespace Go.Dm
set_option linter.unusedVariables false
set_option linter.unusedSimpArgs false
variable {t : Ae} {l : List Ac} {on : List Int}
theorem Aff {S : Type} {step : Int → S → Option S} : ∀ (a b : List Int) (s : S),Qz step (a ++ b) s = (Qz step a s).bind (fun s' => Qz step b s')
 | [],b,s => rfl
 | x :: a,b,s => by
  simp only [List.cons_append,Qz]
  cases step x s with
  | none => rfl
  | some s' => exact Aff a b s'
def Tq (l : List Ac) (on : List Int) : List Int → List Int
 | [] => on
 | [_] => on
 | c :: p :: r => Oc (cfg l c).mems (Tq l on (p :: r))
def memsC (t : Ae) (l : List Ac) (on : List Int) (g : Int) : List Int := Tq l on (upT t g)
structure UseM (t : Ae) (l : List Ac) (on : List Int) : Prop where
 fits : FitsS t l
 pos : 0 < on.length
 set : okSet 8 on
theorem AeI (u : UseM t l on) : ∀ L : List Int,Asc (Tq l on L) ∧ (∀ y ∈ Tq l on L,y ∈ on) ∧ 0 < (Tq l on L).length
 | [] => ⟨u.set.1,fun y h => h,u.pos⟩
 | [_] => ⟨u.set.1,fun y h => h,u.pos⟩
 | c :: p :: r => by
  obtain ⟨h1,h2,h3⟩ := AeI u (p :: r)
  exact ⟨Afw (u.fits.cfg c).small.2.2.2 h1,fun y hy => h2 y (Afs y hy),Afm h3⟩
theorem okSet_sub {n : Int} {A B : List Int} (hb : okSet n B) (ha : Asc A) (h : ∀ y ∈ A,y ∈ B) : okSet n A := ⟨ha,fun y hy => hb.2 y (h y hy)⟩
theorem Agf (u : UseM t l on) (L : List Int) : (Tq l on L).length ≤ 8 := by
 obtain ⟨h1,h2,_⟩ := AeI u L
 have := (okSet_sub u.set h1 h2).len (by omega)
 omega
theorem AgJ (u : UseM t l on) (hs : ∀ x ∈ l,Dx x.settings) : ∀ (L : List Int),L ≠ [] →
  Qz (fun (x : Int) (s : (List Ac) × (List Int)) => (Pa s.1 s.2 x)) (List.reverse L.dropLast) (l,on) = some (l,Tq l on L)
 | [],h => absurd rfl h
 | [_],_ => rfl
 | c :: p :: r,_ => by
  have ih := AgJ u hs (p :: r) (by simp)
  have hl := u.fits.len
  have hn := u.fits.wf.len2
  rw [List.dropLast_cons_of_ne_nil (by simp),List.reverse_cons,Aff,ih,Option.bind_some]
  have h8 := Agf u (p :: r)
  obtain ⟨h1,_⟩ := AeI u (p :: r)
  simp only [Qz,Pa]
  rw [Tv (by omega) hs,Option.bind_some,Agn (u.fits.cfg c).small.2.2.2 (by have := (u.fits.cfg c).small.2.1; omega) (by omega),Option.bind_some]
  rfl
theorem Mems_t (u : UseM t l on) (hs : ∀ x ∈ l,Dx x.settings) (g : Int) : Po t l on g = some (if Ei t g then memsC t l on g else []) := by
 have w := u.fits.wf
 have hl := u.fits.len
 have hn := w.len2
 have h8 := u.set.len (by omega)
 obtain ⟨b,h1,h2⟩ := Aep (t := t) (l := l) (on := on) (n := 8) w.p.names (by omega) (by omega) hs (by omega)
 unfold Po
 rw [h1,h2.mpr ⟨u.fits,u.pos,u.set⟩,Option.bind_some,if_neg (by simp),AbH w,Option.bind_some]
 by_cases hg : Ei t g = true
 ·obtain ⟨r,er⟩ := Va w hg
  have hul : (upT t g).length ≤ 1000 := by
   have := Wr t.nodes.reverse g
   rw [List.length_reverse] at this
   unfold upT
   omega
  have hp : 0 < (upT t g).length := by rw [er]; simp
  rw [if_pos hg,if_neg (by simp; rw [er]; simp),Qw (by omega),Option.bind_some]
  have e1 : w64 (((upT t g).length : Int) - 1) = (((upT t g).length - 1 : Nat) : Int) := by
   rw [Au (by omega) (by omega)]
   omega
  rw [e1,if_pos (by omega)]
  unfold Md
  rw [Option.bind_some,if_pos (by simp; omega)]
  have e2 : (upT t g).take (Int.toNat (((upT t g).length - 1 : Nat) : Int)) = (upT t g).dropLast := by
   rw [Int.toNat_natCast,List.dropLast_eq_take]
  rw [e2,AgJ u hs (upT t g) (by rw [er]; simp),Option.bind_some]
  rfl
 ·have e : upT t g = [] := by
   cases hu : upT t g with
   | nil => rfl
   | cons a r =>
    obtain ⟨n,hn,he⟩ := Gv (t := t) (x := g) (k := a) (by rw [hu]; simp)
    exact absurd (hasN_iff.mpr ⟨n,hn,he⟩) hg
  rw [if_neg hg,e,if_pos (by simp)]
end Go.Dm

/- Plain theory of processor sets, part 9: settings that are changed, by the document. -/
namespace Go.Dm
set_option linter.unusedVariables false
set_option linter.unusedSimpArgs false
variable {t : Ae} {l m : List Ac} {on : List Int}
theorem AbX {n : Int} {L : List Int} (h : okSet n L) (hl : L.length ≤ 1000000) : Im L n = some true := by
 unfold Im
 rw [if_pos (by omega)]
 apply Ok.eq
 refine Ok.range (fun _ _ => True) trivial ?_ fun _ _ => Ok.ret rfl
 intro pre x post s m he _ hm
 have hx := h.2 x (by rw [he]; simp)
 have hlen : pre.length + 1 ≤ L.length := by rw [he]; simp
 have hJ : Ok (Kk m false) (· = true) := by
  unfold Kk
  rw [if_neg (by simp)]
  exact hm () trivial
 unfold Yj
 rw [if_neg (by simp; omega),if_neg (by simp; omega)]
 refine Ok.ite (fun c3 => ?_) fun _ => hJ
 have c3 := of_decide_eq_true c3
 have h0 : 0 < pre.length := by omega
 rw [prev_ok (post := post) (x := x) (d := 0) (by omega) h0]
 refine Ok.guard (by omega) ?_
 have hlast : L.getD (pre.length - 1) 0 = pre.getD (pre.length - 1) 0 := by
  rw [he,List.getD_eq_getElem?_getD,List.getD_eq_getElem?_getD,List.getElem?_append_left (by omega)]
 simp only [Int.toNat_natCast,hlast]
 have ha := h.1
 rw [he,Asc,List.pairwise_append] at ha
 have := ha.2.2 (pre.getD (pre.length - 1) 0) (Sv (by omega)) x (by simp)
 rw [show decide (pre.getD (pre.length - 1) 0 ≥ x) = false from decide_eq_false (by omega)]
 exact hJ
theorem Ck {a lo hi : Int} (h : lo ≤ a ∧ a ≤ hi) : Dl a lo hi = some true := by
 unfold Dl
 simp [h.1,h.2]
theorem Abt {s : Al} (h : CheckP s) : Pp s = some true := by
 obtain ⟨h1,h2,⟨h3,h4⟩,h5,h6,h7,h8,h9,h10,h11⟩ := h
 have l1 := h7.len (by omega)
 have l2 := h8.len (by omega)
 have e7 := AbX h7 (by omega)
 have e8 := AbX h8 (by omega)
 have key : ∀ y,(0 ≤ s.burst ∧ s.burst ≤ y) → (s.quota = 4611686018427387904 ∨ (1 ≤ s.quota ∧ s.quota ≤ 1000000)) → Mg s y = some true := by
  intro y hy hq
  unfold Mg Aw
  by_cases c1 : s.pidsMax = 4611686018427387904
  ·rw [if_pos (by simp [c1])]
   by_cases c2 : s.quota = 4611686018427387904
   ·have c2' : (s.quota == 4611686018427387904) = true := by simp [c2]
    simp only [Ck h2,Ck h3,Ck hy,Ck h5,Ck h6,e7,e8,Ck h9,h10,h11,c2',Option.bind_some,if_true]
   ·have c2' : ¬ (s.quota == 4611686018427387904) = true := by simp [c2]
    have hq' := hq.resolve_left c2
    simp only [Ck h2,Ck h3,Ck hy,Ck h5,Ck h6,e7,e8,Ck h9,h10,h11,c2',Ck hq',Option.bind_some,if_true,if_false]
    simp
  ·have h1' := h1.resolve_left c1
   rw [if_neg (by simp [c1])]
   by_cases c2 : s.quota = 4611686018427387904
   ·have c2' : (s.quota == 4611686018427387904) = true := by simp [c2]
    simp only [Ck h1',Ck h2,Ck h3,Ck hy,Ck h5,Ck h6,e7,e8,Ck h9,h10,h11,c2',Option.bind_some,if_true]
   ·have c2' : ¬ (s.quota == 4611686018427387904) = true := by simp [c2]
    have hq' := hq.resolve_left c2
    simp only [Ck h1',Ck h2,Ck h3,Ck hy,Ck h5,Ck h6,e7,e8,Ck h9,h10,h11,c2',Ck hq',Option.bind_some,if_true,if_false]
    simp
 unfold Pp
 by_cases c2 : s.quota = 4611686018427387904
 ·rw [if_pos c2] at h4
  rw [if_pos (by simp [c2])]
  exact key 0 (by omega) (.inl c2)
 ·rw [if_neg c2] at h4
  rw [if_neg (by simp [c2])]
  exact key _ h4.2 (.inr h4.1)
theorem Agm (f : FitsS t l) (hs : ∀ x ∈ l,Dx x.settings) : Uc t l = some true := by
 have w := f.wf
 have hn := w.len2
 have hl := f.len
 unfold Uc Qm
 rw [Nx w,Option.bind_some,if_neg (by simp),if_neg (by rw [hl]; simp),if_pos (by omega)]
 apply Ok.eq
 refine Ok.range (fun _ _ => True) trivial ?_ fun _ _ => Ok.ret rfl
 intro pre x post s n he _ hm
 have hx : x ∈ l := by rw [he]; simp
 have hpl : pre.length < t.nodes.length := by rw [← hl,he]; simp
 have hg := AdM f hpl
 have hxd : l.getD pre.length default = x := by rw [he]; exact Sy
 rw [hxd] at hg
 unfold Yo Qp
 refine Ok.guard hpl ?_
 rw [hg,if_neg (by simp),Abt (f.chk x hx),Option.bind_some]
 exact hm () trivial
theorem AeR (f : FitsS t l) (hs : ∀ x ∈ l,Dx x.settings) : Ly t l = some l := by
 have w := f.wf
 have hn := w.len2
 have hl := f.len
 unfold Ly
 rw [Nx w,Option.bind_some,if_neg (by simp),if_pos (by omega)]
 apply Ok.eq
 refine Ok.range (fun pre s => s = l.take pre.length) (by simp) ?_ ?_
 ·intro pre x post s n he hi hm
  have hpl : pre.length < t.nodes.length := by rw [he]; simp
  have hxd : t.nodes.getD pre.length default = x := by rw [he]; exact Sy
  have hg := AdM f hpl
  have hc := cfg_at f hpl
  rw [hxd] at hg hc
  unfold Ri
  rw [AbY (by omega) hs,Option.bind_some]
  refine Ok.guard (by rw [hi,List.length_take]; omega) (hm _ ?_)
  have e : ({ group := x.id,settings := cfg l x.id } : Ac) = l[pre.length]'(by omega) := by
   have e1 : l.getD pre.length default = l[pre.length]'(by omega) := Fi (by omega)
   rw [hc,← hg,e1]
  rw [hi,e,List.length_append,List.length_singleton,List.take_append_getElem (by omega)]
 ·intro s hi
  refine Ok.of_eq rfl ?_
  rw [hi,← hl,List.take_length]
def Qd (l : List Ac) (g : Int) (s : Al) : List Ac := l.map (fun x => if x.group == g then { x with settings := s } else x)
theorem cfg_set (g : Int) (s : Al) (k : Int) : cfg (Qd l g s) k = if k = g then (if l.any (fun x => x.group == g) then s else dfS) else cfg l k := by
 unfold cfg Qd
 induction l with
 | nil => simp
 | cons x r ih =>
  rw [List.map_cons,List.find?_cons,List.find?_cons]
  by_cases hx : x.group = g
  ·subst hx
   by_cases hk : k = x.group
   ·subst hk
    simp
   ·have h1 : (x.group == k) = false := by simp; omega
    simp only [beq_self_eq_true,if_true,h1,if_neg hk]
    rw [ih,if_neg hk]
  ·have h0 : (x.group == g) = false := by simpa using hx
   simp only [h0,Bool.false_eq_true,if_false,List.any_cons,Bool.false_or]
   by_cases hk : x.group = k
   ·subst hk
    simp [hx]
   ·have h1 : (x.group == k) = false := by simpa using hk
    simp only [h1]
    exact ih
theorem Yu {al : Bool} : ∀ (ks left : List Int),(∀ c ∈ ks,cfg l c = cfg m c) → Cj l al ks left = Cj m al ks left
 | [],left,_ => rfl
 | c :: r,left,h => by
  rw [Cj,Cj,h c (by simp)]
  split
  ·rw [Yu r _ (fun d hd => h d (by simp [hd]))]
  ·exact Yu r _ (fun d hd => h d (by simp [hd]))
theorem own_cong (w : WfT t) : ∀ x ∈ t.nodes,(∀ p ∈ upT t x.id,∀ c ∈ Bf t p,cfg l c = cfg m c) → Dn t l on x.id = Dn t m on x.id ∧ Ds t l on x.id = Ds t m on x.id ∧ Lq t l on x.id = Lq t m on x.id ∧ Hg t l on x.id = Hg t m on x.id := by
 refine w.induct fun x hx ih h => ?_
 have hh : Ei t x.id = true := hasN_iff.mpr ⟨x,hx,rfl⟩
 have fin : Dn t l on x.id = Dn t m on x.id → Ds t l on x.id = Ds t m on x.id → Dn t l on x.id = Dn t m on x.id ∧ Ds t l on x.id = Ds t m on x.id ∧ Lq t l on x.id = Lq t m on x.id ∧ Hg t l on x.id = Hg t m on x.id := by
  intro h1 h2
  have h3 : Jj t l on x.id = Jj t m on x.id := by unfold Jj; rw [h2]
  obtain ⟨r,er⟩ := Va w hh
  have hk : ∀ c ∈ Bf t x.id,cfg l c = cfg m c := h x.id (by rw [er]; simp)
  refine ⟨h1,h2,?_,?_⟩
  ·unfold Lq Abi
   rw [h1,h3,Yu _ _ hk]
  ·unfold Hg Lx
   rw [h1,h3,Yu _ _ hk]
 by_cases h1 : x.id = 1
 ·refine fin ?_ ?_
  ·rw [h1,(Re w).1,(Re w).1]
  ·rw [h1,(Re w).2,(Re w).2]
 ·have hg := AhH w hx h1
  obtain ⟨p,hp,hpe⟩ := hasN_iff.mp hg
  obtain ⟨i1,i2,i3,i4⟩ := ih p hp hpe (by
   rw [hpe]
   intro q hq
   exact h q (by rw [w.up hx]; simp [hq]))
  rw [hpe] at i1 i2 i3 i4
  have hk : x.id ∈ Bf t x.parent := kids_iff.mpr ⟨x,hx,rfl,rfl⟩
  obtain ⟨a1,a2⟩ := Qt (l := l) (on := on) w hg hk
  obtain ⟨b1,b2⟩ := Qt (l := m) (on := on) w hg hk
  obtain ⟨r,er⟩ := Va w hg
  have hc : cfg l x.id = cfg m x.id := h x.parent (by rw [w.up hx,er]; simp) x.id hk
  refine fin ?_ ?_
  ·rw [a2,b2,i4,i3,hc]
  ·rw [a1,b1,i4]
theorem Afl : ∀ (L : List Int),(∀ c ∈ L,cfg l c = cfg m c) → Tq l on L = Tq m on L
 | [],_ => rfl
 | [_],_ => rfl
 | c :: p :: r,h => by
  rw [Tq,Tq,h c (by simp),Afl (p :: r) (fun d hd => h d (by simp [hd]))]
theorem set_mid {α : Type} (A B : List α) (x y : α) : (A ++ x :: B).set A.length y = A ++ y :: B := by
 rw [List.set_append_right _ _ (Nat.le_refl _),Nat.sub_self]
 rfl
def putS (g : Int) (s : Al) (x : Ac) : Ac := if x.group == g then { x with settings := s } else x
theorem Ahf (f : FitsS t l) (hs : ∀ x ∈ l,Dx x.settings) {g : Int} (hg : Ei t g = true) {s : Al} (hc : CheckP s) (hss : Dx s) : Vp t l g s = some (Qd l g s,0) := by
 have w := f.wf
 have hn := w.len2
 have hl := f.len
 unfold Vp
 rw [Agm f hs,Option.bind_some,if_neg (by simp),Oq w,Option.bind_some,hg,if_neg (by simp),Abt hc,Option.bind_some,if_neg (by simp),AeR f hs,Option.bind_some]
 apply Ok.eq
 refine Ok.while (fun q => ∃ i : Nat,i ≤ l.length ∧ q = ((l.take i).map (putS g s) ++ l.drop i,(i : Int))) (fun q => l.length - Int.toNat q.2) ⟨0,by omega,by simp⟩ (by rw [Em]; simp; omega) ?_
 rintro q n ⟨i,hi,rfl⟩ hm
 unfold Aac Sa
 have hlen : ((l.take i).map (putS g s) ++ l.drop i).length = l.length := by simp; omega
 simp only [hlen]
 refine Ok.ite (fun c => ?_) fun c => ?_
 ·have c := of_decide_eq_true c
  have hil : i < l.length := by omega
  have hA : ((l.take i).map (putS g s)).length = i := by simp; omega
  have hd : l.drop i = l[i] :: l.drop (i + 1) := List.drop_eq_getElem_cons hil
  have hat : ((l.take i).map (putS g s) ++ l.drop i).getD i default = l[i] := by
   rw [hd]
   have := Sy (pre := (l.take i).map (putS g s)) (post := l.drop (i + 1)) (x := l[i]) (d := default)
   rwa [hA] at this
  have hnext : (l.take (i + 1)).map (putS g s) ++ l.drop (i + 1) = (l.take i).map (putS g s) ++ putS g s l[i] :: l.drop (i + 1) := by
   rw [List.take_succ_eq_append_getElem hil,List.map_append,List.append_assoc]
   rfl
  have hw : w64 ((i : Int) + 1) = ((i + 1 : Nat) : Int) := by
   rw [Au (by omega) (by omega)]
   omega
  refine Ok.guard (by omega) (Ok.guard (by simp only [Int.toNat_natCast]; omega) ?_)
  simp only [Int.toNat_natCast,hat,hw]
  refine Ok.ite (fun c2 => ?_) fun c2 => ?_
  ·rw [Abr hss,Option.bind_some]
   refine Ok.guard (by omega) (Ok.guard (by omega) (hm _ ⟨i + 1,by omega,?_⟩ (by simp only [Int.toNat_natCast]; omega)))
   rw [hnext,hd]
   have := set_mid ((l.take i).map (putS g s)) (l.drop (i + 1)) l[i] ({ group := l[i].group,settings := s } : Ac)
   rw [hA] at this
   rw [this]
   unfold putS
   rw [if_pos c2]
  ·refine hm _ ⟨i + 1,by omega,?_⟩ (by simp only [Int.toNat_natCast]; omega)
   rw [hnext,hd]
   unfold putS
   rw [if_neg (by rw [c2]; simp)]
 ·have c := of_decide_eq_false c
  have : i = l.length := by omega
  subst this
  refine Ok.ret ?_
  rw [List.take_length,List.drop_length,List.append_nil]
  rfl
theorem AhN (f : FitsS t l) {g : Int} {s : Al} (hc : CheckP s) : FitsS t (Qd l g s) := by
 refine ⟨f.wf,?_,fun x hx => ?_⟩
 ·rw [← f.grp]
  unfold Qd
  rw [List.map_map]
  refine List.map_congr_left fun x _ => ?_
  simp only [Function.comp]
  split <;> rfl
 ·obtain ⟨y,hy,rfl⟩ := List.mem_map.mp hx
  split
  ·exact hc
  ·exact f.chk y hy
theorem Ahe (hs : ∀ x ∈ l,Dx x.settings) {g : Int} {s : Al} (hss : Dx s) : ∀ x ∈ Qd l g s,Dx x.settings := by
 intro x hx
 obtain ⟨y,hy,rfl⟩ := List.mem_map.mp hx
 split
 ·exact hss
 ·exact hs y hy
theorem Afi {g : Int} {s : Al} {k : Int} (h : k ≠ g) : cfg (Qd l g s) k = cfg l k := by
 rw [cfg_set,if_neg h]
end Go.Dm

/- The law CpusetApart, on the model. -/
namespace Go.Dm
set_option linter.unusedVariables false
set_option linter.unusedSimpArgs false
variable {t : Ae} {l : List Ac} {on : List Int}
theorem AeU (w : WfT t) (g : Int) : ∃ L,Lt t g = some L ∧ (∀ x,Qi L x = some ((upT t x).contains g)) ∧ L.length ≤ 1000000 := by
 obtain ⟨L,e,hnd,hm⟩ := Aef w g
 have hl := AbW hnd (fun a ha => (hm a).mp ha)
 have hn := w.len2
 refine ⟨L,e,fun x => ?_,by omega⟩
 rw [AgR _ _ (by omega)]
 congr 1
 rw [Bool.eq_iff_iff,List.contains_iff_mem,List.contains_iff_mem,hm]
theorem Aez (l0 : List Int) : Ok (Kv l0) (· = true) := by
 have sane : ∀ {f : Bool → Option Bool},f true = some true → Ok (Option.bind Oi f) (· = true) := fun h => Ok.step Age (Ok.of_eq h rfl)
 unfold Kv Wv
 refine Ok.step rfl ?_
 refine Ok.ite (fun _ => sane rfl) fun c => ?_
 have hl : l0.length ≤ 600 := by
  have : ((l0.length : Nat) : Int) ≤ 600 := by simpa using c
  omega
 refine Ok.step (a := { l := l0,atF := 0 }) rfl ?_
 refine Ok.bind (Tree_ok (dice_roll hl) 8 (by omega) (by omega)) fun r5 ⟨w,hd⟩ => ?_
 have hn := w.len2
 refine Ok.bind (AhP hd w) fun r6 ⟨f,hs,hd⟩ => ?_
 refine Ok.bind (Online_ok hd (n := 6) (by omega) (by omega)) fun r7 ⟨ho,hpos,hd⟩ => ?_
 have hn1 : 1 ≤ r5.1.nodes.length := by
  obtain ⟨n,hn,_⟩ := hasN_iff.mp (AgM w)
  exact List.length_pos_of_mem hn
 refine Ok.bind (AeH hd _ (by omega)) fun r8 ⟨hd,n0,n1⟩ => ?_
 refine Ok.guard (by omega) ?_
 refine Ok.bind (Ado hd) fun r12 ⟨hc,hss,hd⟩ => ?_
 have h16 : okSet 16 r7.1 := Xb ho (by omega)
 have h8 : okSet 8 r7.1 := Xb ho (by omega)
 have hol := ho.len (by omega)
 generalize hgx : (r5.1.nodes.getD (Int.toNat r8.1) (default : Aj)) = gx
 have hgm : gx ∈ r5.1.nodes := by rw [← hgx]; exact Sv (by omega)
 have hgg : Ei r5.1 gx.id = true := hasN_iff.mpr ⟨gx,hgm,rfl⟩
 rw [Ahf f hs hgg hc hss,Option.bind_some,if_neg (by simp)]
 have f' : FitsS r5.1 (Qd r6.1 gx.id r12.1) := AhN f hc
 have hs' := Ahe hs (g := gx.id) hss
 have u : UseS r5.1 r6.1 r7.1 := ⟨f,hpos,h16⟩
 have u' : UseS r5.1 (Qd r6.1 gx.id r12.1) r7.1 := ⟨f',hpos,h16⟩
 have um : UseM r5.1 r6.1 r7.1 := ⟨f,hpos,h8⟩
 have um' : UseM r5.1 (Qd r6.1 gx.id r12.1) r7.1 := ⟨f',hpos,h8⟩
 have hJ1 : ∀ (L : List Int),(∀ x,Qi L x = some ((upT r5.1 x).contains (if gx.id = 1 then gx.id else gx.parent))) → Ok (Ig r5 r6 r7 r8 (Qd r6.1 gx.id r12.1,0) L) (· = true) := by
  intro L hL
  unfold Ig
  refine Ok.guard (by omega) ?_
  refine Ok.range (fun _ _ => True) trivial ?_ fun _ _ => sane rfl
  intro pre x post s n he _ hm
  have hx : x ∈ r5.1.nodes := by rw [he]; simp
  have hh : Ei r5.1 x.id = true := hasN_iff.mpr ⟨x,hx,rfl⟩
  have hJ7 : Ok (Ie n false) (· = true) := by
   unfold Ie
   rw [if_neg (by simp)]
   exact hm () trivial
  have hJ6 : Ok (Ih r5 r6 r7 r8 (Qd r6.1 gx.id r12.1,0) x n false) (· = true) := by
   unfold Ih
   rw [if_neg (by simp),hgx]
   obtain ⟨SL,e1,e2,_⟩ := AeU w gx.id
   rw [e1,Option.bind_some,e2 x.id,Option.bind_some]
   refine Ok.ite (fun c2 => ?_) fun _ => hJ7
   have c2 : gx.id ∉ upT r5.1 x.id := by simpa using c2
   have e : memsC r5.1 (Qd r6.1 gx.id r12.1) r7.1 x.id = memsC r5.1 r6.1 r7.1 x.id := Afl _ fun c hc' => Afi fun e => c2 (e ▸ hc')
   have h8l := Agf um (upT r5.1 x.id)
   have h8l' : (memsC r5.1 r6.1 r7.1 x.id).length ≤ 8 := h8l
   simp only
   rw [Mems_t um hs,Option.bind_some,Mems_t um' hs',Option.bind_some,if_pos hh,if_pos hh,e,Aat _ (by omega),Option.bind_some]
   exact hJ7
  unfold Ps
  rw [hL x.id,Option.bind_some]
  refine Ok.ite (fun c2 => ?_) fun _ => hJ6
  have c2 : (if gx.id = 1 then gx.id else gx.parent) ∉ upT r5.1 x.id := by simpa using c2
  have e : Lq r5.1 (Qd r6.1 gx.id r12.1) r7.1 x.id = Lq r5.1 r6.1 r7.1 x.id := by
   refine (own_cong w x hx fun p hp c hck => ?_).2.2.1
   refine Afi fun e => ?_
   subst e
   obtain ⟨y,hy,e2,e1⟩ := kids_iff.mp hck
   have hyg : y = gx := (Agk w hy).symm.trans ((congrArg (Aba r5.1) e1).trans (Agk w hgm))
   rw [hyg] at e2
   by_cases h1 : gx.id = 1
   ·have := Aca w (hasN_iff.mpr (up_nodes w hp)) hck
    exact this h1
   ·rw [if_neg h1,e2] at c2
    exact c2 hp
  have h16l := (AeJ u hh).2.2.2
  simp only
  rw [Cpus_t u hs,Option.bind_some,Cpus_t u' hs',Option.bind_some,if_pos hh,if_pos hh,e,Aat _ (by omega),Option.bind_some]
  exact hJ6
 obtain ⟨L1,e1,e2,_⟩ := AeU w gx.id
 rw [e1,Option.bind_some]
 refine Ok.ite (fun c1 => ?_) fun c1 => ?_
 ·have c1 : gx.id ≠ 1 := by simpa using c1
  obtain ⟨L2,q1,q2,_⟩ := AeU w gx.parent
  rw [q1,Option.bind_some]
  exact hJ1 L2 fun x => by rw [if_neg c1]; exact q2 x
 ·have c1 : gx.id = 1 := by simpa using c1
  exact hJ1 L1 fun x => by rw [if_pos c1]; exact e2 x
theorem Adw (l : List Int) (_ : ∀ n ∈ l,-9223372036854775808 ≤ n ∧ n ≤ 9223372036854775807) : Kv l = some true := (Aez l).eq
end Go.Dm

/- Models of Go types and functions, printed by a program. -/
namespace Go.Dm
set_option linter.unusedVariables false

end Go.Dm


/- The iterator that slices.Backward hands back. -/
namespace Go.Dm
open Go.Proofs Go.RowKit Go.Shelf
attribute [local go_sem] Oper.semAt_some

set_option maxRecDepth 100000 in
set_option maxHeartbeats 4000000 in
theorem TryzBack1 (b len : Nat) (L : List Int) (hL : L.length = len) (hlen : len < 2 ^ 62) (l : Nat) (J : Nat → World → Prop) (W : World) (hJ : ∀ k W1,J k W1 → ∃ v,W1.cell? ⟨b,0,none⟩ = some v ∧ SlAt W1 v L)
    (hY : ∀ j W1,j < len → J (len - (j + 1)) W1 → YieldAt Fence.wide 0 Tryz.prog l #[.int .i64 (j : Int),.int .i64 (L[j]?.getD 0)] W1 fun e W' => e = .returned (.bool true) ∧ J (len - j) W') (h0 : J 0 W) :
    CallsIn Fence.wide 0 Tryz.prog 142 #[.func (.yield l) #[] #[],.pointer (some ⟨b,0,none⟩)] W fun e W' => (∃ v,e = .returned v) ∧ J len W' := by
  refine callsIn_of_wp Tryz.func142 rfl trivial ?_ rfl
  simp only [Tryz.ntmps142,List.size_toArray,List.length_cons,List.length_nil,Nat.reduceAdd,Nat.reduceSub,Array.replicate_succ,Array.replicate_zero,List.push_toArray,List.append_toArray,List.nil_append,List.cons_append]
  obtain ⟨v,hv,hs⟩ := hJ 0 W h0
  have hlv : ∃ p c,v = .slice p len c := by
    rcases hs with ⟨h1,h2⟩ | ⟨b',o,cap,h2,_,_⟩
    · exact ⟨none,0,by rw [h2,← hL,h1]; rfl⟩
    · exact ⟨_,_,by rw [h2,hL]⟩
  obtain ⟨p,c,rfl⟩ := hlv
  clear hs
  gi_wp2
  gi_loopw [3] (fun i wr => ∃ j : Nat,j ≤ len ∧ i = .int .i64 ((j : Int) - 1) ∧ J (len - j) wr)
    (fun i _ => (intOf i + 1).toNat)
  case atStart => exact ⟨len,Nat.le_refl _,rfl,by rw [Nat.sub_self]; exact h0⟩
  case round =>
    obtain ⟨j,hj,rfl,hJs⟩ := hrel
    cases j with
    | zero =>
      gi_wp2
      go_end0
      exact ⟨⟨_,rfl⟩,hJs⟩
    | succ j =>
      obtain ⟨v,hv,hs⟩ := hJ _ _ hJs
      rcases hs with ⟨h1,_⟩ | ⟨b',o,cap,rfl,hcap,hc⟩
      · rw [h1] at hL; simp at hL; omega
      · have hcx := hc j (by omega)
        rw [hL] at hv
        simp only [at_,List.getD_eq_getElem?_getD] at hcx hv
        obtain ⟨fn,tmps,assign,body,hy,hR⟩ := hY j wr (by omega) hJs
        have e : (((j + 1 : Nat) : Int) - 1) = (j : Int) := by omega
        rw [e]
        gi_wp2
        refine ⟨rfl,hR.mono ?_⟩
        rintro e W3 ⟨rfl,hJ3⟩
        gi_wp2
        go_roundw
        case rel => exact ⟨j,by omega,by simp,hJ3⟩
        case measure => simp [intOf]

theorem TryzBack : AdC Tryz.prog 142 := by
  refine ⟨fun args w => enters_of Tryz.func142 (by kernel_rfl) rfl args w,fun b L hlen l J W hJ hY h0 => ?_⟩
  have hf : fen none = Fence.wide := rfl
  rw [hf] at hY ⊢
  refine TryzBack1 b L.length L rfl hlen l J W hJ (fun j W1 hj hJ1 => ?_) h0
  have := hY (L.length - (j + 1)) W1 (by omega) hJ1
  rw [show L.length - 1 - (L.length - (j + 1)) = j by omega,show L.length - (j + 1) + 1 = L.length - j by omega,List.getD_eq_getElem?_getD] at this
  exact this
end Go.Dm


/- Types of the program. -/
namespace Go.Dm
open Go.Proofs
set_option linter.unusedVariables false
def Tt : Ty := [(3,⟨.int .i64,1,8,[.int .i64 0],false⟩),
  (4,⟨.bool,1,1,[.bool false],false⟩),
  (5,⟨.int .u8,1,1,[.int .u8 0],false⟩),
  (9,⟨.str,1,16,[.string ByteArray.empty],false⟩),
  (22,⟨.slice 3,1,24,[.slice none 0 0],false⟩),
  (27,⟨.slice 37,1,24,[.slice none 0 0],false⟩),
  (29,⟨.struct [(0,27),(1,3)],2,32,[.slice none 0 0,.int .i64 0],false⟩),
  (31,⟨.slice 73,1,24,[.slice none 0 0],false⟩),
  (37,⟨.struct [(0,3),(1,3),(2,9),(3,3),(4,3),(5,3)],6,56,[.int .i64 0,.int .i64 0,.string ByteArray.empty,.int .i64 0,.int .i64 0,.int .i64 0],false⟩),
  (41,⟨.struct [(0,3),(1,3),(2,3),(3,3),(4,3),(5,4)],6,48,[.int .i64 0,.int .i64 0,.int .i64 0,.int .i64 0,.int .i64 0,.bool false],false⟩),
  (42,⟨.slice 187,1,24,[.slice none 0 0],false⟩),
  (44,⟨.struct [(0,3),(1,3),(2,3),(3,3),(4,3),(5,3),(6,3),(7,22),(8,22),(9,3),(10,41),(16,42)],17,184,[.int .i64 0,.int .i64 0,.int .i64 0,.int .i64 0,.int .i64 0,.int .i64 0,.int .i64 0,.slice none 0 0,.slice none 0 0,.int .i64 0,.int .i64 0,.int .i64 0,.int .i64 0,.int .i64 0,.int .i64 0,.bool false,.slice none 0 0],false⟩),
  (62,⟨.func,1,8,[.nilFunc],false⟩),
  (67,⟨.int .i64,1,8,[.int .i64 0],false⟩),
  (73,⟨.struct [(0,3),(1,44)],18,192,[.int .i64 0,.int .i64 0,.int .i64 0,.int .i64 0,.int .i64 0,.int .i64 0,.int .i64 0,.int .i64 0,.slice none 0 0,.slice none 0 0,.int .i64 0,.int .i64 0,.int .i64 0,.int .i64 0,.int .i64 0,.int .i64 0,.bool false,.slice none 0 0],false⟩),
  (84,⟨.struct [(0,22),(1,3)],2,32,[.slice none 0 0,.int .i64 0],false⟩),
  (88,⟨.map 3 22,1,8,[(.map none)],false⟩),
  (89,⟨.map 3 4,1,8,[(.map none)],false⟩),
  (91,⟨.struct [(0,29),(2,31),(3,88),(4,89)],5,72,[.slice none 0 0,.int .i64 0,.slice none 0 0,(.map none),(.map none)],false⟩),
  (134,⟨.slice 9,1,24,[.slice none 0 0],false⟩),
  (140,⟨.int .u64,1,8,[.int .u64 0],false⟩),
  (168,⟨.int .i64,1,8,[.int .i64 0],false⟩),
  (177,⟨.int .u64,1,8,[.int .u64 0],false⟩),
  (184,⟨.map 3 3,1,8,[(.map none)],false⟩),
  (187,⟨.struct [(0,3),(1,3),(2,3),(3,3),(4,3),(5,3),(6,3)],7,56,[.int .i64 0,.int .i64 0,.int .i64 0,.int .i64 0,.int .i64 0,.int .i64 0,.int .i64 0],false⟩),
  (192,⟨.int .u64,1,8,[.int .u64 0],false⟩),
  (206,⟨.slice 5,1,24,[.slice none 0 0],false⟩)]
theorem AaU : Jr Tryz.prog Tt := tyGood_of ⟨⟨⟨by kernel_rfl,by kernel_rfl⟩,trivial⟩,⟨⟨by kernel_rfl,by kernel_rfl⟩,trivial⟩,⟨⟨by kernel_rfl,by kernel_rfl⟩,trivial⟩,⟨⟨by kernel_rfl,by kernel_rfl⟩,trivial⟩,⟨⟨by kernel_rfl,by kernel_rfl⟩,trivial⟩,⟨⟨by kernel_rfl,by kernel_rfl⟩,trivial⟩,⟨⟨by kernel_rfl,by kernel_rfl⟩,trivial⟩,⟨⟨by kernel_rfl,by kernel_rfl⟩,trivial⟩,⟨⟨by kernel_rfl,by kernel_rfl⟩,trivial⟩,⟨⟨by kernel_rfl,by kernel_rfl⟩,trivial⟩,⟨⟨by kernel_rfl,by kernel_rfl⟩,trivial⟩,⟨⟨by kernel_rfl,by kernel_rfl⟩,trivial⟩,⟨⟨by kernel_rfl,by kernel_rfl⟩,trivial⟩,⟨⟨by kernel_rfl,by kernel_rfl⟩,trivial⟩,⟨⟨by kernel_rfl,by kernel_rfl⟩,trivial⟩,⟨⟨by kernel_rfl,by kernel_rfl⟩,trivial⟩,⟨⟨by kernel_rfl,by kernel_rfl⟩,trivial⟩,⟨⟨by kernel_rfl,by kernel_rfl⟩,trivial⟩,⟨⟨by kernel_rfl,by kernel_rfl⟩,trivial⟩,⟨⟨by kernel_rfl,by kernel_rfl⟩,trivial⟩,⟨⟨by kernel_rfl,by kernel_rfl⟩,trivial⟩,⟨⟨by kernel_rfl,by kernel_rfl⟩,trivial⟩,⟨⟨by kernel_rfl,by kernel_rfl⟩,trivial⟩,⟨⟨by kernel_rfl,by kernel_rfl⟩,trivial⟩,⟨⟨by kernel_rfl,by kernel_rfl⟩,trivial⟩,⟨⟨by kernel_rfl,by kernel_rfl⟩,trivial⟩,⟨⟨by kernel_rfl,by kernel_rfl⟩,trivial⟩,trivial⟩ (by kernel_rfl) (by kernel_rfl)
theorem mixed : Tryz.prog.follows .mixedOrders = true := by kernel_rfl
theorem RK {cx : Cx} {σ : St} {Q : Exit → St → Prop} {nt : Nat} (hnt : cx.nt = nt) {ops : Array Oper} {id : Nat} {draw : Bool} {r : List Code} (xs : List Orc) (sl : List (Nat × MV)) (ob : List (Nat × Obj))
    {q : Prop} (hq : q) (hQ : DW Tryz.prog cx r (Af sl ob) Q) (h : Vl Tryz.prog Tt nt ops xs (Cc sl) (Cc ob) draw σ = some ((sl,ob),q) := by kernel_rfl) : DW Tryz.prog cx (.region id ops draw :: r) σ Q := DW.rk AaU mixed hnt xs sl ob hq h hQ
theorem RD {cx : Cx} {Q : Exit → St → Prop} {nt : Nat} (hnt : cx.nt = nt) {ops : Array Oper} {id : Nat} {draw : Bool} {r : List Code} {sl0 : List (Nat × MV)} {ob0 : List (Nat × Obj)} (xs : List Orc) (ds : List Nat) (us : List (Nat × MV)) (dk : List Nat) (uo : List (Nat × Obj))
    {q : Prop} (hq : q) (hQ : DW Tryz.prog cx r (Af (up ds us sl0) (up dk uo ob0)) Q) (h : Vl Tryz.prog Tt nt ops xs (Cc (up ds us sl0)) (Cc (up dk uo ob0)) draw (Af sl0 ob0) = some ((up ds us sl0,up dk uo ob0),q) := by kernel_rfl) : DW Tryz.prog cx (.region id ops draw :: r) (Af sl0 ob0) Q := DW.rd AaU mixed hnt xs ds us dk uo hq hQ h
theorem SO {f : FuncId} {fn : Func} {c : Code} (hf : Tryz.prog.funcs[f]? = some fn) (hb : fn.body = some c)
    {args : List MV} {outs : List Body} {res : MV} {outs' news : List Body} (hlen : outs'.length = outs.length)
    (sl : List (Nat × MV)) (ob : List (Nat × Obj)) (hd : ∀ cx : Cx,cx.nt = fn.ntmps → DW Tryz.prog cx [c] (Af sl ob) (finQ Tt fn.results.toList outs.length res (outs' ++ news)))
    (hname : fn.name ≠ "runtime.NumGoroutine" := by decide) (hle : Nat.ble args.length fn.ntmps = true := by rfl) (hm : Nat.ble outs.length 1000 = true := by rfl)
    (h1 : Qv (upN args.length 0) (upN outs.length 0) ⟨fun t => (args[t]?).getD .any,Bs outs⟩ = sl := by kernel_rfl)
    (h2 : No (upN outs.length 0) ⟨fun t => (args[t]?).getD .any,Bs outs⟩ = ob := by kernel_rfl) :
    Spec Tryz.prog f args outs res outs' news := spec_of AaU hf hname hb hlen (Nat.le_of_ble_eq_true hle) (Nat.le_of_ble_eq_true hm) h1 h2 fun cx hnt => DW.start (hd cx hnt)
theorem RN {cx : Cx} {σ : St} {Q : Exit → St → Prop} {nt : Nat} (hnt : cx.nt = nt) {ops : Array Oper} {id : Nat} {draw : Bool} {r : List Code} (xs : List Orc) (sl : List (Nat × MV)) (ob : List (Nat × Obj))
    (ps : List (Nat × MV)) (qs : List (Nat × Body)) {q : Prop} (hq : q) (h : Vl Tryz.prog Tt nt ops xs (Cc sl) (Cc ob) draw σ = some ((Qj ps sl,Pg qs ob),q)) (hs : SP sl ps) (ho : OP ob qs)
    (hQ : DW Tryz.prog cx r (Af sl ob) Q) : DW Tryz.prog cx (.region id ops draw :: r) σ Q := DW.rn AaU mixed hnt xs sl ob ps qs hq h hs ho hQ
theorem RT {cx : Cx} {σ : St} {nt : Nat} (hnt : cx.nt = nt) {ops : Array Oper} {draw : Bool} {sl : List (Nat × MV)} {ob : List (Nat × Obj)} (xs : List Orc)
    (ps : List (Nat × MV)) {q : Prop} (hq : q) (h : Vl Tryz.prog Tt nt ops xs (Cc sl) (Cc ob) draw σ = some ((Qj ps sl,ob),q)) (hs : SP sl ps) : RegTo Tryz.prog cx ops draw σ sl ob := RegTo.rn AaU mixed hnt xs ps hq h hs
theorem SOR {f : FuncId} {fn : Func} {c : Code} (hf : Tryz.prog.funcs[f]? = some fn) (hb : fn.body = some c)
    {args : List MV} {outs : List Body} {res : MV} {outs' news : List Body} (hlen : outs'.length = outs.length)
    (sl : List (Nat × MV)) (ob : List (Nat × Obj)) (hd : ∀ cx : Cx,cx.nt = fn.ntmps → cx.rd = none → DW Tryz.prog cx [c] (Af sl ob) (finQ Tt fn.results.toList outs.length res (outs' ++ news)))
    (hname : fn.name ≠ "runtime.NumGoroutine" := by decide) (hle : Nat.ble args.length fn.ntmps = true := by rfl) (hm : Nat.ble outs.length 1000 = true := by rfl)
    (h1 : Qv (upN args.length 0) (upN outs.length 0) ⟨fun t => (args[t]?).getD .any,Bs outs⟩ = sl := by kernel_rfl)
    (h2 : No (upN outs.length 0) ⟨fun t => (args[t]?).getD .any,Bs outs⟩ = ob := by kernel_rfl) :
    Spec Tryz.prog f args outs res outs' news := Afn AaU hf hname hb hlen (Nat.le_of_ble_eq_true hle) (Nat.le_of_ble_eq_true hm) h1 h2 fun cx hnt hrd => DW.start (hd cx hnt hrd)
theorem SB {cd : Option Code} {c : Code} {nt : Nat} {args : List MV} {outs outs' : List Body} (hb : cd = some c) (hlen : outs'.length = outs.length) (sl : List (Nat × MV)) (ob : List (Nat × Obj))
    (hd : ∀ cx : Cx,cx.nt = nt → DW Tryz.prog cx [c] (Af sl ob) (bfin Tt outs.length outs')) (hle : args.length = nt := by rfl) (hm : Nat.ble outs.length 1000 = true := by rfl)
    (h1 : Qv (Cc sl) (upN outs.length 0) ⟨fun t => (args[t]?).getD .any,Bs outs⟩ = sl := by kernel_rfl)
    (h2 : No (upN outs.length 0) ⟨fun t => (args[t]?).getD .any,Bs outs⟩ = ob := by kernel_rfl) : ∀ c' : Code,cd = some c' → BSpec Tryz.prog nt c' args outs outs' := by
  intro c' h
  have e : c' = c := Option.some.inj (h.symm.trans hb)
  subst e
  exact bspec_of AaU hlen hle (Nat.le_of_ble_eq_true hm) h1 h2 fun cx hnt => DW.start (hd cx hnt)
theorem endB {σ : St} {m : Nat} {bs : List Body} (bs' : List Body) (ex : List Nat) (res' : MV) (h : fin Tt [] m ex σ = some (res',bs') := by kernel_rfl) (e : res' = .p (.tup []) := by rfl) (e2 : bs' = bs ++ [] := by rfl) : bfin Tt m bs .normal σ := ⟨ex,by rw [← e,← e2]; exact h⟩
end Go.Dm

