/- Texts of the proof of CpusetValid: the data machine, the models of the Go functions, their contracts. -/
import Derived.Test.YtkkeddafdmjhlaaGreatCpusetValidA2
import Derived.Test.YtkkeddafdmjhlaaGreatCpusetValidA1
import Derived.Test.YtkkeddafdmjhlaaGreatProg
set_option linter.unusedVariables false
set_option linter.unusedSimpArgs false
/- Plain theory, part 39: ascending lists; Sorted of the sets; Compact of lists that do not fall. -/
namespace Go.Dm
abbrev Asc (L : List Int) : Prop := L.Pairwise (· < ·)
theorem Aab : ∀ {A B : List Int},Asc A → Asc B → (∀ x,x ∈ A ↔ x ∈ B) → A = B
 | [],B,_,_,h => by
  cases B with
  | nil => rfl
  | cons b B => exact absurd ((h b).mpr (by simp)) (by simp)
 | a :: A,[],_,_,h => absurd ((h a).mp (by simp)) (by simp)
 | a :: A,b :: B,ha,hb,h => by
  rw [Asc,List.pairwise_cons] at ha hb
  have hab : a = b := by
   rcases List.mem_cons.mp ((h a).mp (by simp)) with e | e
   ·exact e
   ·rcases List.mem_cons.mp ((h b).mpr (by simp)) with e' | e'
    ·exact e'.symm
    ·have h1 := hb.1 a e
     have h2 := ha.1 b e'
     omega
  subst hab
  congr 1
  refine Aab ha.2 hb.2 fun x => ?_
  have hx := h x
  simp only [List.mem_cons] at hx
  constructor
  ·intro hm
   rcases hx.mp (.inr hm) with e | e
   ·have := ha.1 x hm
    omega
   ·exact e
  ·intro hm
   rcases hx.mpr (.inr hm) with e | e
   ·have := hb.1 x hm
    omega
   ·exact e
theorem Nj {A : List Int} (h : Asc A) : A.Nodup := h.imp fun h => by omega
theorem put_in {L : List Int} {k : Nat} {x : Int} (hk : k ≤ L.length) : (Lr (L ++ [0]) (k + 1) (Gq (Cc (L ++ [0]).length k) (Cc (L ++ [0]).length (k + 1))) (((L ++ [0]).drop k).take (Cc (L ++ [0]).length k))).set k x = L.take k ++ x :: L.drop k := by
 have e1 : (L ++ [0]).drop k = L.drop k ++ [0] := List.drop_append_of_le_length hk
 have hl : (L ++ [0]).length = L.length + 1 := by simp
 have e2 : Gq (L.length + 1 - k) (L.length + 1 - (k + 1)) = L.length - k := by
  rw [Wr]
  show min _ _ = _
  omega
 have e3 : (L.drop k ++ [0]).take (L.length + 1 - k) = L.drop k ++ [(0 : Int)] := List.take_of_length_le (by simp; omega)
 have e4 : (L.drop k ++ [(0 : Int)]).take (L.length - k) = L.drop k := by
  rw [List.take_append_of_le_length (by simp),List.take_of_length_le (by simp)]
 have e5 : (L ++ [0]).drop (k + 1 + (L.length - k)) = ([] : List Int) := List.drop_of_length_le (by simp; omega)
 have e6 : ∃ y,(L ++ [0]).take (k + 1) = L.take k ++ [y] := by
  rw [List.take_add_one,List.take_append_of_le_length hk]
  have : k < (L ++ [(0 : Int)]).length := by simp; omega
  exact ⟨(L ++ [0])[k],by rw [List.getElem?_eq_getElem this]; rfl⟩
 obtain ⟨y,e6⟩ := e6
 unfold Lr
 rw [He,He,hl,e2,e1,e3,e4,e5,e6,List.append_nil,List.append_assoc]
 have hlen : (L.take k).length = k := by simp; omega
 rw [List.set_append_right _ _ (by omega),hlen,Nat.sub_self]
 rfl
theorem asc_put {L : List Int} {k : Nat} {x : Int} (h : Asc L) (h1 : ∀ y ∈ L.take k,y < x) (h2 : ∀ y ∈ L.drop k,x < y) : Asc (L.take k ++ x :: L.drop k) := by
 rw [Asc,List.pairwise_append,List.pairwise_cons]
 have hs : Asc (L.take k ++ L.drop k) := by rw [List.take_append_drop]; exact h
 rw [Asc,List.pairwise_append] at hs
 refine ⟨hs.1,⟨h2,hs.2.1⟩,fun a ha b hb => ?_⟩
 rcases List.mem_cons.mp hb with rfl | hb
 ·exact h1 a ha
 ·exact hs.2.2 a ha b hb
theorem Zu {l : List Int} (hl : l.length ≤ 1000000) : Ok (Kr l) (fun r => Asc r ∧ (∀ x,x ∈ r ↔ x ∈ l) ∧ r.length ≤ l.length) := by
 unfold Kr
 refine Ok.guard (by omega) ?_
 refine Ok.range (fun pre s => Asc s ∧ (∀ x,x ∈ s ↔ x ∈ pre) ∧ s.length ≤ pre.length) ⟨List.Pairwise.nil,by simp,by simp⟩ ?_ fun s h => Ok.ret h
 intro pre x post s n he ⟨ha,hm,hlen⟩ hn
 have hsl : s.length ≤ 1000000 := by
  have : pre.length ≤ l.length := by rw [he]; simp
  omega
 unfold Vi
 refine Ok.while (fun s4 => ∃ k : Nat,s4 = (k : Int) ∧ k ≤ s.length ∧ ∀ y ∈ s.drop k,x < y) (fun s4 => s4.toNat) ⟨s.length,rfl,Nat.le_refl _,by simp⟩ (by rw [Fa]; omega) ?_
 rintro _ m ⟨k,rfl,hk,hgt⟩ hm4
 have hJ11 : ∀ r,(Asc r ∧ (∀ y,y ∈ r ↔ y ∈ pre ++ [x]) ∧ r.length ≤ (pre ++ [x]).length) → Ok (Mx n r) (fun r => Asc r ∧ (∀ x,x ∈ r ↔ x ∈ l) ∧ r.length ≤ l.length) := fun r h => hn r h
 have hJ15 : ∀ b,(b = true → x ∈ s) → (b = false → ∀ y ∈ s.take k,y < x) → Ok (Kw x s n (k : Int) b) (fun r => Asc r ∧ (∀ x,x ∈ r ↔ x ∈ l) ∧ r.length ≤ l.length) := by
  intro b h1 h2
  unfold Kw
  refine Ok.ite (fun c => ?_) fun c => ?_
  ·refine hJ11 _ ⟨ha,fun y => ?_,by simp; omega⟩
   rw [hm y,List.mem_append,List.mem_singleton]
   constructor
   ·exact .inl
   ·rintro (h | rfl)
    ·exact h
    ·exact (hm y).mp (h1 c)
  ·have hw : w64 ((k : Int) + 1) = ((k + 1 : Nat) : Int) := by
    rw [Ar (by omega) (by omega)]
    omega
   have ht : Int.toNat (w64 ((k : Int) + 1)) = k + 1 := by rw [hw]; omega
   have ht0 : Int.toNat (k : Int) = k := by omega
   rw [ht,hw,ht0]
   have hl0 : (s ++ [0]).length = s.length + 1 := by simp
   have hol : (Lr (s ++ [0]) (k + 1) (Gq (Cc (s ++ [0]).length k) (Cc (s ++ [0]).length (k + 1))) (((s ++ [0]).drop k).take (Cc (s ++ [0]).length k))).length = s.length + 1 := by
    rw [AeX,hl0]
    ·rw [hl0,He,He,Wr]
     show k + 1 + min _ _ ≤ _
     omega
    ·rw [List.length_take,List.length_drop,hl0,He,He,Wr]
     show min _ _ ≤ _
     omega
   refine Ok.guard (by omega) (Ok.guard ⟨by omega,by rw [hl0]; omega⟩ (Ok.guard ⟨by omega,by rw [hl0]; omega⟩ (Ok.guard (by rw [hl0,He]; omega) (Ok.guard ⟨by omega,by rw [hol]; omega⟩ (Ok.guard (by rw [hol]; omega) ?_)))))
   rw [put_in hk]
   refine hJ11 _ ⟨asc_put ha (h2 c) hgt,fun y => ?_,by simp; omega⟩
   rw [List.mem_append,List.mem_cons,List.mem_append,List.mem_singleton,← hm y]
   constructor
   ·rintro (h | rfl | h)
    ·exact .inl (List.mem_of_mem_take h)
    ·exact .inr rfl
    ·exact .inl (List.mem_of_mem_drop h)
   ·rintro (h | rfl)
    ·rw [← List.take_append_drop k s,List.mem_append] at h
     rcases h with h | h
     ·exact .inl h
     ·exact .inr (.inr h)
    ·exact .inr (.inl rfl)
 by_cases k0 : k = 0
 ·subst k0
  unfold Rg Ku
  rw [if_neg (by simp),if_neg (by simp),if_neg (by simp)]
  exact hJ15 _ (by simp) (by simp)
 ·have hw : w64 ((k : Int) - 1) = ((k - 1 : Nat) : Int) := by
   rw [Ar (by omega) (by omega)]
   omega
  have ht : Int.toNat (((k - 1 : Nat) : Int)) = k - 1 := by omega
  have hkl : k - 1 < s.length := by omega
  have hd : s.drop (k - 1) = s.getD (k - 1) 0 :: s.drop k := by
   rw [List.drop_eq_getElem_cons hkl,Gv hkl,Nat.sub_add_cancel (by omega)]
  have htk : s.take k = s.take (k - 1) ++ [s.getD (k - 1) 0] := by
   have : k = k - 1 + 1 := by omega
   rw [this,List.take_add_one,Gv (by omega),List.getElem?_eq_getElem (by omega)]
   rfl
  have hlast : ∀ y ∈ s.take (k - 1),y < s.getD (k - 1) 0 := by
   have hs : Asc (s.take k) := ha.sublist (List.take_sublist _ _)
   rw [htk,Asc,List.pairwise_append] at hs
   intro y hy
   exact hs.2.2 y hy _ (by simp)
  unfold Rg
  rw [hw,ht]
  refine Ok.ite (fun _ => Ok.guard ⟨by omega,by omega⟩ (Ok.guard hkl ?_)) fun c => by simp at c; omega
  unfold Ku
  rw [hw,ht]
  refine Ok.ite (fun c => ?_) fun c => ?_
  ·have hx : x < s.getD (k - 1) 0 := by simpa using c
   refine hm4 _ ⟨k - 1,rfl,by omega,?_⟩ (by omega)
   rw [hd]
   intro y hy
   rcases List.mem_cons.mp hy with rfl | hy
   ·exact hx
   ·exact hgt y hy
  ·have hx : ¬ x < s.getD (k - 1) 0 := by simpa using c
   refine Ok.ite (fun _ => Ok.guard ⟨by omega,by omega⟩ (Ok.guard hkl ?_)) fun c => by simp at c; omega
   refine hJ15 _ (fun c => ?_) (fun c => ?_)
   ·have : s.getD (k - 1) 0 = x := by simpa using c
    rw [← this]
    exact Tz hkl
   ·have hne : s.getD (k - 1) 0 ≠ x := by simpa using c
    rw [htk]
    intro y hy
    rcases List.mem_append.mp hy with hy | hy
    ·have := hlast y hy
     omega
    ·have : y = s.getD (k - 1) 0 := by simpa using hy
     omega
theorem Xz {l : List Int} (hl : l.length ≤ 1000000) (ha : Asc l) : Kr l = some l :=
 ((Zu hl).mono fun _ ⟨h1,h2,_⟩ => Aab h1 ha h2).eq
theorem le_at {L : List Int} (h : L.Pairwise (· ≤ ·)) {i j : Nat} (hij : i ≤ j) (hj : j < L.length) : L.getD i 0 ≤ L.getD j 0 := by
 by_cases e : i = j
 ·subst e
  omega
 ·rw [Gv hj,Gv (by omega)]
  exact List.pairwise_iff_getElem.mp h i j (by omega) hj (by omega)
theorem Fv {L : List Int} {k : Nat} (h : k < L.length) : L.take (k + 1) = L.take k ++ [L.getD k 0] := by
 rw [List.take_add_one,Gv h,List.getElem?_eq_getElem h]
 rfl
theorem Agr {L : List Int} (hl : L.length ≤ 1000000) (h : L.Pairwise (· ≤ ·)) : Ok (Ij L) (fun r => r.2.length = L.length ∧ r.1 ≤ L.length ∧ Asc (r.2.take r.1) ∧ ∀ x,x ∈ r.2.take r.1 ↔ x ∈ L) := by
 have whole : Asc L → (L.length,L).2.length = L.length ∧ (L.length,L).1 ≤ L.length ∧ Asc ((L.length,L).2.take (L.length,L).1) ∧ ∀ x,x ∈ (L.length,L).2.take (L.length,L).1 ↔ x ∈ L := by
  intro ha
  refine ⟨rfl,Nat.le_refl _,?_,fun x => ?_⟩
  ·show Asc (L.take L.length)
   rw [List.take_length]
   exact ha
  ·show x ∈ L.take L.length ↔ x ∈ L
   rw [List.take_length]
 unfold Ij
 refine Ok.ite (fun c => Ok.ret (whole ?_)) fun c => ?_
 ·have : L.length < 2 := by
   have : ((L.length : Nat) : Int) < 2 := by simpa using c
   omega
  match L,this with
  | [],_ => exact List.Pairwise.nil
  | [a],_ => simp [Asc]
 have hl2 : 2 ≤ L.length := by
  have : ¬ ((L.length : Nat) : Int) < 2 := by simpa using c
  omega
 refine Ok.guard (by omega) ?_
 refine Ok.for (fun j _ => Asc (L.take (j + 1))) ?_ ?_ ?_
 ·rw [Fv (by omega)]
  simp [Asc]
 ·intro j _ n hj ha hn
  have hj' : j + 1 < L.length := by omega
  have hw : w64 (1 + (j : Int) - 1) = (j : Int) := by
   rw [Ar (by omega) (by omega)]
   omega
  have e1 : Int.toNat (1 + (j : Int)) = j + 1 := by omega
  have e0 : Int.toNat (j : Int) = j := by omega
  unfold Nl
  rw [hw,e1,e0]
  refine Ok.guard ⟨by omega,by omega⟩ (Ok.guard hj' (Ok.guard ⟨by omega,by omega⟩ (Ok.guard (by omega) ?_)))
  refine Ok.ite (fun c => ?_) fun c => ?_
  ·have heq : L.getD (j + 1) 0 = L.getD j 0 := by simpa using c
   refine Ok.guard ⟨by omega,by omega⟩ (Ok.guard (by rw [He]; omega) ?_)
   refine Ok.for (fun q s => ∃ k : Nat,s.2 = (k : Int) ∧ s.1.length = L.length ∧ 1 ≤ k ∧ k ≤ j + 1 + q ∧ s.1.drop (j + 1 + q) = L.drop (j + 1 + q) ∧ Asc (s.1.take k) ∧ (∀ x,x ∈ s.1.take k ↔ x ∈ L.take (j + 1 + q + 1)) ∧ s.1.getD (k - 1) 0 = L.getD (j + 1 + q) 0) ?_ ?_ ?_
   ·refine ⟨j + 1,by simp only; omega,rfl,by omega,by omega,rfl,ha,fun x => ?_,?_⟩
    ·show x ∈ L.take (j + 1) ↔ x ∈ L.take (j + 1 + 0 + 1)
     rw [Nat.add_zero,Fv (k := j + 1) hj',List.mem_append,heq]
     constructor
     ·exact .inl
     ·rintro (h | h)
      ·exact h
      ·have : x = L.getD j 0 := by simpa using h
       rw [this,Fv (k := j) (by omega)]
       simp
    ·simp only [Nat.add_sub_cancel,Nat.add_zero]
     exact heq.symm
   ·rintro q ⟨M,k'⟩ m hq ⟨k,e2,hM,k1,hk,hd,hasc,hmem,hlast⟩ hm
    simp only at e2 hM hd hasc hmem hlast
    subst e2
    rw [He] at hq
    have hw2 : w64 (1 + (q : Int) - 1) = (q : Int) := by
     rw [Ar (by omega) (by omega)]
     omega
    have e3 : Int.toNat (1 + (q : Int)) = q + 1 := by omega
    have e4 : Int.toNat (q : Int) = q := by omega
    have hqL : j + 1 + q + 1 < L.length := by omega
    have hget : ∀ i,j + 1 + q ≤ i → M.getD i 0 = L.getD i 0 := by
     intro i hi
     have h1 : M.getD i 0 = (M.drop (j + 1 + q)).getD (i - (j + 1 + q)) 0 := by
      simp only [List.getD_eq_getElem?_getD,List.getElem?_drop]
      congr 2
      omega
     have h2 : L.getD i 0 = (L.drop (j + 1 + q)).getD (i - (j + 1 + q)) 0 := by
      simp only [List.getD_eq_getElem?_getD,List.getElem?_drop]
      congr 2
      omega
     rw [h1,h2,hd]
    unfold Nv
    simp only
    rw [hw2,e1,e3,e4,He,Rx,Rx,hget (j + 1 + (q + 1)) (by omega),hget (j + 1 + q) (by omega),hM]
    refine Ok.guard ⟨by omega,by omega⟩ (Ok.guard (by omega) (Ok.guard ⟨by omega,by omega⟩ (Ok.guard (by omega) ?_)))
    have hk' : Int.toNat (k : Int) = k := by omega
    have hle := le_at h (i := j + 1 + q) (j := j + 1 + (q + 1)) (by omega) (by omega)
    have htake : L.take (j + 1 + (q + 1) + 1) = L.take (j + 1 + q + 1) ++ [L.getD (j + 1 + (q + 1)) 0] := Fv (k := j + 1 + (q + 1)) (by omega)
    have hin : L.getD (j + 1 + q) 0 ∈ L.take (j + 1 + q + 1) := by
     rw [Fv (by omega)]
     simp
    refine Ok.ite (fun c => ?_) fun c => ?_
    ·have hne : L.getD (j + 1 + (q + 1)) 0 ≠ L.getD (j + 1 + q) 0 := by simpa using c
     refine Ok.guard ⟨by omega,by omega⟩ (Ok.guard (by omega) (Ok.guard ⟨by omega,by omega⟩ (Ok.guard (by rw [hk']; omega) ?_)))
     rw [hk']
     have hwk : w64 ((k : Int) + 1) = ((k + 1 : Nat) : Int) := by
      rw [Ar (by omega) (by omega)]
      omega
     have hset : (M.set k (L.getD (j + 1 + (q + 1)) 0)).take (k + 1) = M.take k ++ [L.getD (j + 1 + (q + 1)) 0] := by
      rw [Fv (by rw [List.length_set]; omega),List.take_set_of_le (Nat.le_refl _)]
      congr 2
      rw [List.getD_eq_getElem?_getD,List.getElem?_set_self (by omega)]
      rfl
     refine hm _ ⟨k + 1,by rw [hwk],by simp [hM],by omega,by omega,?_,?_,?_,?_⟩
     ·show (M.set k _).drop (j + 1 + (q + 1)) = L.drop (j + 1 + (q + 1))
      rw [List.drop_set_of_lt (by omega),show j + 1 + (q + 1) = j + 1 + q + 1 by omega,← List.drop_drop,hd,List.drop_drop]
     ·show Asc ((M.set k _).take (k + 1))
      rw [hset,Asc,List.pairwise_append]
      refine ⟨hasc,by simp,fun a ha b hb => ?_⟩
      have hb' : b = L.getD (j + 1 + (q + 1)) 0 := by simpa using hb
      have hkk : k = k - 1 + 1 := by omega
      rw [hkk,Fv (by omega),List.mem_append] at ha
      rcases ha with ha | ha
      ·have h2 := hasc
       rw [hkk,Fv (by omega),Asc,List.pairwise_append] at h2
       have := h2.2.2 a ha _ (List.mem_singleton.mpr rfl)
       omega
      ·have : a = M.getD (k - 1) 0 := by simpa using ha
       omega
     ·intro x
      show x ∈ (M.set k _).take (k + 1) ↔ _
      rw [hset,htake,List.mem_append,List.mem_append,hmem x]
     ·show (M.set k _).getD (k + 1 - 1) 0 = _
      rw [Nat.add_sub_cancel,List.getD_eq_getElem?_getD,List.getElem?_set_self (by omega)]
      rfl
    ·have heq2 : L.getD (j + 1 + (q + 1)) 0 = L.getD (j + 1 + q) 0 := by simpa using c
     refine hm _ ⟨k,rfl,hM,k1,by omega,?_,hasc,?_,?_⟩
     ·show M.drop (j + 1 + (q + 1)) = L.drop (j + 1 + (q + 1))
      rw [show j + 1 + (q + 1) = j + 1 + q + 1 by omega,← List.drop_drop,hd,List.drop_drop]
     ·intro x
      show x ∈ M.take k ↔ _
      rw [htake,List.mem_append,hmem x]
      constructor
      ·exact .inl
      ·rintro (h | h)
       ·exact h
       ·have : x = L.getD (j + 1 + (q + 1)) 0 := by simpa using h
        rw [this,heq2]
        exact hin
     ·show M.getD (k - 1) 0 = _
      rw [hlast]
      exact heq2.symm
   ·rintro ⟨M,k'⟩ ⟨k,e2,hM,k1,hk,hd,hasc,hmem,hlast⟩
    simp only at e2 hM hd hasc hmem hlast
    subst e2
    have hm0 : Int.toNat ((((Cc L.length (j + 1)) : Nat) : Int) - 1) = L.length - (j + 1) - 1 := by
     rw [He]
     omega
    rw [hm0] at hk hmem
    have hk' : Int.toNat (k : Int) = k := by omega
    unfold Nm
    simp only
    rw [hk',hM,He]
    have hfl : (Io M k (L.length - k) 0).length = L.length := by
     rw [Xl (by omega),hM]
    refine Ok.guard ⟨by omega,by omega⟩ (Ok.guard (by omega) (Ok.guard ⟨by omega,by rw [hfl]; omega⟩ (Ok.ret ?_)))
    refine ⟨hfl,by show k ≤ _; omega,?_,?_⟩
    ·show Asc ((Io M k (L.length - k) 0).take k)
     rw [Wa (by omega)]
     exact hasc
    ·intro x
     show x ∈ (Io M k (L.length - k) 0).take k ↔ x ∈ L
     rw [Wa (by omega),hmem x,List.take_of_length_le (by omega)]
  ·have hne : L.getD (j + 1) 0 ≠ L.getD j 0 := by simpa using c
   refine hn () ?_
   have hle := le_at h (i := j) (j := j + 1) (by omega) hj'
   rw [Fv (k := j + 1) hj',Asc,List.pairwise_append]
   refine ⟨ha,by simp,fun a ha' b hb => ?_⟩
   have hb' : b = L.getD (j + 1) 0 := by simpa using hb
   rw [Fv (by omega),List.mem_append] at ha'
   rcases ha' with ha' | ha'
   ·have h2 := ha
    rw [Fv (by omega),Asc,List.pairwise_append] at h2
    have := h2.2.2 a ha' _ (List.mem_singleton.mpr rfl)
    omega
   ·have : a = L.getD j 0 := by simpa using ha'
    omega
 ·intro _ ha
  refine Ok.ret (whole ?_)
  have : Int.toNat (((L.length : Nat) : Int) - 1) + 1 = L.length := by omega
  rw [this,List.take_length] at ha
  exact ha
theorem sortU_ok {L : List Int} (hl : L.length ≤ 1000) : ∃ M,Hq L = some M ∧ M.length = L.length ∧ ∃ r,Ij M = some r ∧ r.2.length = M.length ∧ r.1 ≤ M.length ∧ Asc (r.2.take r.1) ∧ ∀ x,x ∈ r.2.take r.1 ↔ x ∈ L := by
 obtain ⟨M,h1,h2,h3⟩ := Sort_ok L hl
 have hlen := h2.length_eq
 obtain ⟨r,g1,g2,g3,g4,g5⟩ := Agr (L := M) (by omega) h3
 exact ⟨M,h1,hlen,r,g1,g2,g3,g4,fun x => (g5 x).trans h2.mem_iff⟩
end Go.Dm

/- Plain theory, part 30: what keeps Fits; all made hierarchies fit. -/
namespace Go.Dm
section
variable {t t' : Ab} {fn : Ah → Ah}
end
section
variable {t t' : Ab} {p : Int} {s : ByteArray}
end
end Go.Dm

/- Plain theory, part 31: threaded's functions. -/
namespace Go.Dm
theorem AeK {t : Ab} (hm : ∀ x ∈ t.nodes,AbR x) (w : ¬ WfT t) : Nq t = some false := by
 obtain ⟨b,hb,e⟩ := AaO t hm
 cases b
 ·exact hb
 ·exact absurd (e.mp rfl) w
end Go.Dm

/- Plain theory, part 32: new groups. -/
namespace Go.Dm
end Go.Dm

/- Plain theory, part 33: controllers are written, groups are made threaded. -/
namespace Go.Dm
end Go.Dm

/- Plain theory, part 34: names of made groups are short. -/
namespace Go.Dm
end Go.Dm

/- Plain theory, part 35: rights of users. -/
namespace Go.Dm
end Go.Dm

/- Plain theory, part 36: acts of users. -/
namespace Go.Dm
theorem Ady (l : List Int) (hl : l.length ≤ 1000000) : Ig l l = some true := by
 unfold Ig
 rw [if_neg (by simp),if_pos (by omega)]
 apply Ok.eq
 refine Ok.range (fun _ _ => True) trivial ?_ fun _ _ => Ok.ret rfl
 intro pre x post s n he _ hn
 unfold Zi
 have hi : pre.length < l.length := by
  rw [he]
  simp
 rw [if_pos hi]
 have : l.getD pre.length 0 = x := by
  rw [he]
  exact AaC
 rw [this,if_neg (by simp)]
 exact hn () trivial
end Go.Dm

/- Plain theory, part 40: what is read of any hierarchy; processes; hierarchies that were handed in. -/
namespace Go.Dm
end Go.Dm

/- Plain theory of freezers, part 1: what is read; valid freezers. -/
namespace Go.Dm
def zF (g : Int) : Frost := { group := g,want := false,frozen := false,changes := 0 }
def frN (f : Zr) (g : Int) : Frost := (f.frosts.find? (fun x => x.group == g)).getD (zF g)
def wN (t : Ab) (f : Zr) (id : Int) : Bool := (upT t id).any (fun g => (frN f g).want)
def rN (h : Abp) (f : Zr) (id : Int) : Bool := wN h.tree f id && h.tasks.all (fun x => !(upT h.tree x.group).contains id || f.stopped.contains x.id)
section
variable {h : Abp} {t : Ab} {f f' : Zr}
theorem AcE {pre : List Int} {x : Int} (a : Asc pre) (h1 : ∀ y ∈ pre,y < x) : Asc (pre ++ [x]) := by
 rw [Asc,List.pairwise_append]
 exact ⟨a,by simp,fun y hy z hz => by rw [List.mem_singleton.mp hz]; exact h1 y hy⟩
end
end Go.Dm

/- Plain theory of freezers, part 2: what changes make of them. -/
namespace Go.Dm
theorem AaI (l : List Int) (x : Int) (hl : l.length ≤ 9223372036854775807) : Ht l x = some (l.contains x) := by
 unfold Ht Ns
 rw [if_pos (by omega),Om (p := fun y : Int => x == y) (fun k y n => rfl) rfl,Option.bind_some]
 rcases Un (fun y : Int => x == y) l 0 with ⟨i,h1,h2,h3⟩ | ⟨h1,h2⟩
 ·rw [h2]
  have hm := List.mem_of_find?_eq_some h3
  have he := List.find?_some h3
  have : l.contains x = true := by
   rw [List.contains_iff_mem]
   have : x = l.getD i 0 := by simpa using he
   rw [this]
   exact hm
  rw [this]
  simp
 ·rw [h1]
  have : l.contains x = false := by
   rw [List.find?_eq_none] at h2
   cases hc : l.contains x
   ·rfl
   ·rw [List.contains_iff_mem] at hc
    have := h2 x hc
    simp at this
  rw [this]
  simp
theorem Vh (l : List Int) (x : Int) (hl : l.length ≤ 9223372036854775807) : Rr l x = some (l.contains x) := by
 unfold Rr
 rw [if_pos (by omega),Ads (p := fun y : Int => y == x) (f := fun _ => true) (z := false) (fun k y n => rfl) rfl]
 congr 1
 cases hf : l.find? (fun y => y == x) with
 | none =>
  rw [List.find?_eq_none] at hf
  cases hc : l.contains x
  ·rfl
  ·rw [List.contains_iff_mem] at hc
   have := hf x hc
   simp at this
 | some y =>
  have hm := List.mem_of_find?_eq_some hf
  have he := List.find?_some hf
  have : y = x := by simpa using he
  rw [this] at hm
  simp [hm]
section
variable {h : Abp} {f : Zr}
theorem Sd {l : List Int} (hl : l.length ≤ 1000000) : Dx l = some l := by
 unfold Dx
 rw [if_pos (by omega)]
end
end Go.Dm

/- Plain theory of processor sets, part 1: settings, sets of small numbers. -/
namespace Go.Dm
set_option linter.unusedVariables false
set_option linter.unusedSimpArgs false
def okSet (n : Int) (L : List Int) : Prop := Asc L ∧ ∀ x ∈ L,0 ≤ x ∧ x < n
theorem AdI : ∀ {L : List Int} {a n : Int},Asc L → (∀ x ∈ L,a ≤ x ∧ x < n) → (L.length : Int) ≤ max 0 (n - a)
 | [],a,n,_,_ => by simp; omega
 | x :: r,a,n,h,hb => by
  rw [Asc,List.pairwise_cons] at h
  have hx := hb x (by simp)
  have ih := AdI (L := r) (a := x + 1) (n := n) h.2 (fun y hy => ⟨by have := h.1 y hy; omega,(hb y (by simp [hy])).2⟩)
  simp only [List.length_cons]
  omega
theorem okSet.len {n : Int} {L : List Int} (h : okSet n L) (hn : 0 ≤ n) : (L.length : Int) ≤ n := by
 have := AdI h.1 h.2
 omega
theorem Eb {m : Option Bool} {rest : Option Bool} {P R : Prop} (h : Ok m (fun b => b = true ↔ P)) (k : P → Ok rest (fun b => b = true ↔ R)) : Ok (Option.bind m fun r => if r then rest else some false) (fun b => b = true ↔ P ∧ R) := by
 refine Ok.bind h fun r hr => Ok.ite (fun c => ?_) fun c => Ok.ret ?_
 ·have hp := hr.mp c
  exact (k hp).mono fun b hb => by rw [hb]; simp [hp]
 ·have : ¬ P := fun hp => by rw [hr.mpr hp] at c; simp at c
  simp [this]
theorem Vp {m : Option Bool} {P : Prop} (h : Ok m (fun b => b = true ↔ P)) : Ok (Option.bind m fun r => some r) (fun b => b = true ↔ P) := Ok.bind h fun r hr => Ok.ret hr
theorem Hk (a lo hi : Int) : Ok (Cj a lo hi) (fun b => b = true ↔ (lo ≤ a ∧ a ≤ hi)) := by
 unfold Cj
 exact Ok.ret (by simp)
theorem Hc (a lo hi : Int) : Ok (Fj a lo hi) (fun b => b = true ↔ ((lo ≤ a ∧ a ≤ hi) ∨ a = 4611686018427387904)) := by
 unfold Fj
 exact Ok.ret (by simp)
theorem prev_ok {pre post : List Int} {x d : Int} (hl : pre.length + 1 ≤ 9223372036854775807) (h : 0 < pre.length) : w64 (((pre.length : Nat) : Int) - 1) = ((pre.length - 1 : Nat) : Int) := by
 rw [Ar (by omega) (by omega)]
 omega
theorem Mt (L : List Int) (n : Int) (hl : L.length ≤ 9223372036854775807) : Ok (Jo L n) (fun b => b = true ↔ okSet n L) := by
 unfold Jo
 refine Ok.guard hl ?_
 refine Ok.range (fun pre _ => okSet n pre) ⟨List.Pairwise.nil,fun x hx => by simp at hx⟩ ?_ fun _ h => Ok.ret (by simp [h])
 intro pre x post s m he hp hn
 unfold Xh Le
 have hlen : pre.length + 1 ≤ L.length := by rw [he]; simp
 refine Ok.ite (fun c => Ok.ret ?_) fun c => Ok.ite (fun c2 => Ok.ret ?_) fun c2 => ?_
 ·have c := of_decide_eq_true c
  simp only [Bool.false_eq_true,false_iff]
  intro ⟨_,hb⟩
  have := hb x (by rw [he]; simp)
  omega
 ·have c2 := of_decide_eq_true c2
  simp only [Bool.false_eq_true,false_iff]
  intro ⟨_,hb⟩
  have := hb x (by rw [he]; simp)
  omega
 ·have c := of_decide_eq_false c
  have c2 := of_decide_eq_false c2
  refine Ok.ite (fun c3 => ?_) fun c3 => ?_
  ·have c3 := of_decide_eq_true c3
   have h0 : 0 < pre.length := by omega
   rw [prev_ok (post := post) (x := x) (d := 0) (by omega) h0]
   refine Ok.guard (by omega) ?_
   have hlast : L.getD (pre.length - 1) 0 = pre.getD (pre.length - 1) 0 := by
    rw [he,List.getD_eq_getElem?_getD,List.getD_eq_getElem?_getD,List.getElem?_append_left (by omega)]
   simp only [Int.toNat_natCast,hlast]
   refine Ok.ite (fun c4 => Ok.ret ?_) fun c4 => ?_
   ·have c4 := of_decide_eq_true c4
    simp only [Bool.false_eq_true,false_iff]
    intro ⟨ha,_⟩
    rw [he,Asc,List.pairwise_append] at ha
    have := ha.2.2 (pre.getD (pre.length - 1) 0) (Tz (by omega)) x (by simp)
    omega
   ·have c4 := of_decide_eq_false c4
    refine hn () ⟨?_,fun y hy => ?_⟩
    ·refine AcE hp.1 fun y hy => ?_
     obtain ⟨j,hj,rfl⟩ := List.getElem_of_mem hy
     have hle : pre[j] ≤ pre.getD (pre.length - 1) 0 := by
      have := le_at (L := pre) (hp.1.imp (fun h => Int.le_of_lt h)) (i := j) (j := pre.length - 1) (by omega) (by omega)
      rwa [Gv hj] at this
     omega
    ·rcases List.mem_append.mp hy with h | h
     ·exact hp.2 y h
     ·simp at h; subst h; omega
  ·have c3 := of_decide_eq_false c3
   have h0 : pre = [] := List.eq_nil_of_length_eq_zero (by omega)
   subst h0
   refine Ok.ite (fun c => by simp at c) fun _ => hn () ⟨by simp [Asc],fun y hy => by simp at hy; subst hy; omega⟩
theorem Yh (m : Hm) : ∃ b,Fd m = some b := by
 obtain ⟨b,h,_⟩ : Ok (Fd m) (fun _ => True) := by
  unfold Fd Gk
  refine Ok.bind (Hc _ _ _) fun _ _ => Ok.ite (fun _ => ?_) fun _ => Ok.ret trivial
  refine Ok.bind (Hc _ _ _) fun _ _ => Ok.ite (fun _ => ?_) fun _ => Ok.ret trivial
  refine Ok.bind (Hc _ _ _) fun _ _ => Ok.ite (fun _ => ?_) fun _ => Ok.ret trivial
  refine Ok.bind (Hc _ _ _) fun _ _ => Ok.ite (fun _ => ?_) fun _ => Ok.ret trivial
  exact Ok.bind (Hc _ _ _) fun _ _ => Ok.ret trivial
 exact ⟨b,h⟩
theorem Wu (L : List As) (hl : L.length ≤ 9223372036854775807) : ∃ b,El L = some b := by
 obtain ⟨b,h,_⟩ : Ok (El L) (fun _ => True) := by
  unfold El
  refine Ok.guard hl ?_
  refine Ok.range (fun _ _ => True) trivial ?_ fun _ _ => Ok.ret trivial
  intro pre x post s n he _ hn
  have hlen : pre.length + 1 ≤ L.length := by rw [he]; simp
  have hj : ∀ b,Ok (Bb n b) (fun _ => True) := by
   intro b
   unfold Bb
   exact Ok.ite (fun _ => Ok.ret trivial) fun _ => hn () trivial
  unfold Po
  refine Ok.ite (fun _ => hj _) fun _ => Ok.ite (fun _ => hj _) fun _ => Ok.ite (fun c3 => ?_) fun _ => ?_
  ·have c3 := of_decide_eq_true c3
   refine Ok.guard (by rw [Ar (by omega) (by omega)]; omega) ?_
   refine Ok.ite (fun _ => hj _) fun _ => Ok.ite (fun _ => hj _) fun _ => Ok.ite (fun _ => hj _) fun _ => ?_
   refine Ok.bind (Hc _ _ _) fun _ _ => Ok.ite (fun _ => hj _) fun _ => ?_
   refine Ok.bind (Hc _ _ _) fun _ _ => Ok.ite (fun _ => hj _) fun _ => ?_
   refine Ok.bind (Hc _ _ _) fun _ _ => Ok.ite (fun _ => hj _) fun _ => ?_
   refine Ok.bind (Hc _ _ _) fun _ _ => Ok.ite (fun _ => hj _) fun _ => ?_
   exact Ok.ite (fun _ => hj _) fun _ => hj _
  ·refine Ok.ite (fun _ => hj _) fun _ => Ok.ite (fun _ => hj _) fun _ => ?_
   refine Ok.bind (Hc _ _ _) fun _ _ => Ok.ite (fun _ => hj _) fun _ => ?_
   refine Ok.bind (Hc _ _ _) fun _ _ => Ok.ite (fun _ => hj _) fun _ => ?_
   refine Ok.bind (Hc _ _ _) fun _ _ => Ok.ite (fun _ => hj _) fun _ => ?_
   refine Ok.bind (Hc _ _ _) fun _ _ => Ok.ite (fun _ => hj _) fun _ => ?_
   exact Ok.ite (fun _ => hj _) fun _ => hj _
 exact ⟨b,h⟩
def BandP (s : Ao) : Prop := (1 ≤ s.period ∧ s.period ≤ 1000000) ∧ if s.quota = 4611686018427387904 then s.burst = 0 else (1 ≤ s.quota ∧ s.quota ≤ 1000000) ∧ 0 ≤ s.burst ∧ s.burst ≤ s.quota
theorem AaK (s : Ao) : Ok (Ii s) (fun b => b = true ↔ BandP s) := by
 unfold Ii Is Hf BandP
 refine Ok.ite (fun c => ?_) fun c => ?_
 ·have c := beq_iff_eq.mp c
  rw [if_pos c]
  exact Eb (Hk _ _ _) fun _ => Ok.ret (by simp)
 ·have c : ¬ s.quota = 4611686018427387904 := by simpa using c
  rw [if_neg c]
  exact Eb (Hk _ _ _) fun _ => Eb (Hk _ _ _) fun _ => Vp (Hk _ _ _)
def RestP (s : Ao) : Prop :=
 (1 ≤ s.weight ∧ s.weight ≤ 10000) ∧ BandP s ∧ (0 ≤ s.clampMin ∧ s.clampMin ≤ 10000) ∧ (0 ≤ s.clampMax ∧ s.clampMax ≤ 10000) ∧ okSet 16 s.cpus ∧ okSet 8 s.mems ∧ (0 ≤ s.partition ∧ s.partition ≤ 1) ∧
 Fd s.memory = some true ∧ El s.devices = some true
def CheckP (s : Ao) : Prop := (s.pidsMax = 4611686018427387904 ∨ (0 ≤ s.pidsMax ∧ s.pidsMax ≤ 1099511627776)) ∧ RestP s
structure Fp (s : Ao) : Prop where
 cpus : s.cpus.length ≤ 1000000
 mems : s.mems.length ≤ 1000000
 devices : s.devices.length ≤ 1000000
theorem AbK {m : Option Bool} (h : ∃ b,m = some b) : Ok m (fun b => b = true ↔ m = some true) := by
 obtain ⟨b,h⟩ := h
 exact ⟨b,h,by rw [h]; simp⟩
theorem Abo {s : Ao} (hs : Fp s) : Ok (Ng s) (fun b => b = true ↔ CheckP s) := by
 have h1 := hs.cpus
 have h2 := hs.mems
 have h3 := hs.devices
 unfold Ng Bm CheckP
 refine Ok.ite (fun c => ?_) fun c => ?_
 ·have c := beq_iff_eq.mp c
  have : (s.pidsMax = 4611686018427387904 ∨ (0 ≤ s.pidsMax ∧ s.pidsMax ≤ 1099511627776)) ↔ True := by simp [c]
  rw [this,true_and]
  exact Eb (Hk _ _ _) fun _ => Eb (AaK s) fun _ => Eb (Hk _ _ _) fun _ => Eb (Hk _ _ _) fun _ => Eb (Mt _ _ (by omega)) fun _ =>
   Eb (Mt _ _ (by omega)) fun _ => Eb (Hk _ _ _) fun _ => Eb (AbK (Yh _)) fun _ => Vp (AbK (Wu _ (by omega)))
 ·have c : ¬ s.pidsMax = 4611686018427387904 := by simpa using c
  have : (s.pidsMax = 4611686018427387904 ∨ (0 ≤ s.pidsMax ∧ s.pidsMax ≤ 1099511627776)) ↔ (0 ≤ s.pidsMax ∧ s.pidsMax ≤ 1099511627776) := by simp [c]
  rw [this]
  exact Eb (Hk _ _ _) fun _ => Eb (Hk _ _ _) fun _ => Eb (AaK s) fun _ => Eb (Hk _ _ _) fun _ => Eb (Hk _ _ _) fun _ => Eb (Mt _ _ (by omega)) fun _ =>
   Eb (Mt _ _ (by omega)) fun _ => Eb (Hk _ _ _) fun _ => Eb (AbK (Yh _)) fun _ => Vp (AbK (Wu _ (by omega)))
def dfS : Ao := { pidsMax := 4611686018427387904,weight := 100,quota := 4611686018427387904,period := 100000,burst := 0,clampMin := 0,clampMax := 10000,cpus := [],mems := [],partition := 0,memory := { min := 0,low := 0,high := 4611686018427387904,max := 4611686018427387904,swapMax := 4611686018427387904,together := false },devices := [] }
def cfg (l : List Ac) (g : Int) : Ao := (l.find? (fun x => x.group == g)).elim dfS (·.settings)
theorem Adm : CheckP dfS := by
 have e1 : Fd dfS.memory = some true := by kernel_rfl
 have e2 : El dfS.devices = some true := by kernel_rfl
 refine ⟨.inl rfl,⟨by simp [dfS],by simp [dfS]⟩,?_,by simp [dfS],by simp [dfS],⟨List.Pairwise.nil,fun x hx => by simp [dfS] at hx⟩,⟨List.Pairwise.nil,fun x hx => by simp [dfS] at hx⟩,by simp [dfS],e1,e2⟩
 unfold BandP
 simp [dfS]
theorem AbA : Fp dfS := ⟨by simp [dfS],by simp [dfS],by simp [dfS]⟩
theorem Aet {s : Ao} (h : Fp s) : Sl s = some s := by
 have h1 := h.cpus
 have h2 := h.mems
 have h3 := h.devices
 unfold Sl
 rw [if_pos (by omega),if_pos (by omega),if_pos (by omega)]
theorem AcS {s : Ao} (h : Fp s) : Ob s = some s := by
 have h1 := h.cpus
 have h2 := h.mems
 have h3 := h.devices
 unfold Ob Er
 rw [Sd (by omega),Option.bind_some,Sd (by omega),Option.bind_some,if_pos (by omega),Option.bind_some]
theorem Abl {l : List Ac} (hl : l.length ≤ 1000000) (h : ∀ x ∈ l,Fp x.settings) (g : Int) : Ln l g = some (cfg l g) := by
 unfold Ln
 rw [if_pos (by omega)]
 apply Ok.eq
 refine Ok.range (fun pre _ => ∀ x ∈ pre,(x.group == g) = false) (by simp) ?_ ?_
 ·intro pre x post s n he hp hn
  unfold Ug
  refine Ok.ite (fun c => ?_) fun c => hn () ?_
  ·rw [Aet (h x (by rw [he]; simp)),Option.bind_some]
   refine Ok.ret ?_
   have hf : l.find? (fun x => x.group == g) = some x := by
    rw [he,List.find?_append,List.find?_eq_none.mpr (fun y hy => by rw [hp y hy]; simp),Option.none_or,List.find?_cons,c]
   unfold cfg
   rw [hf]
   rfl
  ·intro y hy
   rcases List.mem_append.mp hy with h | h
   ·exact hp y h
   ·simp at h; subst h; exact c
 ·intro s hp
  refine Ok.of_eq (b := dfS) rfl ?_
  have hf : l.find? (fun x => x.group == g) = none := List.find?_eq_none.mpr (fun y hy => by rw [hp y hy]; simp)
  unfold cfg
  rw [hf]
  rfl
theorem Xt {l : List Ac} (hl : l.length ≤ 1000000) (h : ∀ x ∈ l,Fp x.settings) (g : Int) : Mw l g = some (cfg l g) := by
 unfold Mw Ui Ez
 rw [if_pos (by omega),Om (p := fun x : Ac => x.group == g) (fun k x n => by
  unfold Gi Rj
  rw [Option.bind_some]) rfl,Option.bind_some,Option.bind_some]
 rcases Un (fun x : Ac => x.group == g) l default with ⟨i,h1,h2,h3⟩ | ⟨h1,h2⟩
 ·rw [h2,Option.elim_some,if_neg (by simp),if_pos (by omega)]
  simp only [Int.toNat_natCast]
  rw [AcS (h _ (Tz h1)),Option.bind_some]
  unfold cfg
  rw [h3]
  rfl
 ·rw [h1,Option.elim_none,if_pos (by simp)]
  unfold cfg
  rw [h2]
  rfl
end Go.Dm

/- Plain theory of processor sets, part 2: what is within, in both, in one alone; settings that fit. -/
namespace Go.Dm
set_option linter.unusedVariables false
set_option linter.unusedSimpArgs false
theorem Py {L : List Int} (p : Int → Bool) (h : Asc L) : Asc (L.filter p) := h.sublist List.filter_sublist
theorem Zb (L : List Int) (x : Int) (hl : L.length ≤ 9223372036854775807) : Ro L x = some (L.contains x) := by
 unfold Ro
 rw [AaI L x hl,Option.bind_some]
theorem AdA {A B : List Int} (ha : A.length ≤ 1000000) (hb : B.length ≤ 9223372036854775807) : Oh A B = some (A.all (fun x => B.contains x)) := by
 unfold Oh Ey Fr
 rw [if_pos (by omega),Om (p := fun x : Int => !B.contains x) (fun k x n => by
  unfold Gy Rh
  rw [Zb _ _ hb,Option.bind_some,Option.bind_some]) rfl,Option.bind_some,Option.bind_some]
 rcases Un (fun x : Int => !B.contains x) A 0 with ⟨i,h1,h2,h3⟩ | ⟨h1,h2⟩
 ·rw [h2,Option.elim_some]
  congr 1
  have hx := List.find?_some h3
  have : A.all (fun x => B.contains x) = false := by
   rw [Bool.eq_false_iff]
   intro hall
   rw [List.all_eq_true] at hall
   have := hall _ (List.mem_of_find?_eq_some h3)
   rw [this] at hx
   simp at hx
  rw [this]
  simp
 ·rw [h1,Option.elim_none]
  congr 1
  have : A.all (fun x => B.contains x) = true := by
   rw [List.all_eq_true]
   intro x hx
   rw [List.find?_eq_none] at h2
   have := h2 x hx
   simpa using this
  rw [this]
  rfl
theorem AdC {L : List Int} (hl : L.length ≤ 1000) : Ok (Me L) (fun r => Asc r ∧ (∀ x,x ∈ r ↔ x ∈ L) ∧ r.length ≤ L.length) := by
 unfold Me
 obtain ⟨M,m1,m2,r,r1,r2,r3,r4,r5⟩ := sortU_ok hl
 rw [Sd (by omega),Option.bind_some,m1,Option.bind_some,if_pos m2.symm,r1,Option.bind_some,if_pos r2.symm,if_pos (by omega)]
 refine Ok.ret ⟨r4,r5,?_⟩
 rw [List.length_take]
 omega
theorem Ye {L : List Int} (hl : L.length ≤ 1000) (h : Asc L) : Me L = some L := by
 obtain ⟨r,h1,h2,h3,_⟩ := AdC hl
 rw [h1,Aab h2 h h3]
theorem AaJ {B : List Int} (hb : B.length ≤ 9223372036854775807) (x : Int) : Fn x B = some (B.contains x) := by
 unfold Fn Ss
 rw [Zb _ _ hb,Option.bind_some,Option.bind_some,Bool.not_not]
theorem AaM {B : List Int} (hb : B.length ≤ 9223372036854775807) (x : Int) : Dy x B = some (!B.contains x) := by
 unfold Dy No
 rw [Zb _ _ hb,Option.bind_some,Option.bind_some]
theorem AcQ {B : List Int} (hb : B.length ≤ 9223372036854775807) (L : List Int) (h2 : L.length ≤ 1000000) :
  Ok (Ce L B) (fun r => r.2.1.length = L.length ∧ r.1 ≤ L.length ∧ r.2.1.take r.1 = L.filter (fun x => !B.contains x) ∧ r.2.2 = B) := by
 unfold Ce Dc
 rw [if_pos (by omega),Om (p := fun x => B.contains x) (fun k x n => by
  unfold Eg
  rw [AaJ hb,Option.bind_some]) rfl]
 refine Ok.step rfl ?_
 rcases Un (fun x => B.contains x) L 0 with ⟨i,h1,h2',h3⟩ | ⟨h1,h2'⟩
 ·rw [h2',Option.elim_some]
  refine Ok.ite (fun c => by have := beq_iff_eq.mp c; omega) fun _ => ?_
  have e1 : w64 ((i : Int) + 1) = ((i + 1 : Nat) : Int) := by
   rw [Ar (by omega) (by omega)]
   omega
  rw [e1]
  have hh := List.findIdx?_eq_some_iff_getElem.mp h2'
  obtain ⟨g1,g2,g3⟩ := hh
  refine Aci (p := fun x => B.contains x) (d := 0) h2 h1 ?_ ?_ ?_ ?_
  ·intro x hx
   obtain ⟨j,hj,rfl⟩ := List.getElem_of_mem hx
   rw [List.length_take] at hj
   rw [List.getElem_take]
   have := g3 j (by omega)
   simpa using this
  ·rw [Gv h1]
   exact g2
  ·intro M i j n hM hij hj hn
   unfold Ct Cb
   simp only
   have ei : Int.toNat (i : Int) = i := by omega
   have ej : Int.toNat (j : Int) = j := by omega
   rw [ei,ej]
   refine Ok.ite (fun _ => ?_) fun c => by
    have := of_decide_eq_false c
    omega
   refine Ok.guard (by omega) (Ok.guard (by omega) ?_)
   rw [AaJ hb,Option.bind_some]
   have ej1 : w64 ((j : Int) + 1) = ((j + 1 : Nat) : Int) := by
    rw [Ar (by omega) (by omega)]
    omega
   have ei1 : w64 ((i : Int) + 1) = ((i + 1 : Nat) : Int) := by
    rw [Ar (by omega) (by omega)]
    omega
   rw [ej1,ei1]
   refine Ok.ite (fun c => ?_) fun c => ?_
   ·refine Ok.guard (by omega) (Ok.guard (by omega) (hn _ ?_))
    rw [if_neg]
    simpa using c
   ·refine hn _ ?_
    rw [if_pos]
    rw [Bool.not_eq_false'] at c
    exact c
  ·intro M i n hM hi ht
   unfold Ct
   simp only
   have ei : Int.toNat (i : Int) = i := by omega
   rw [ei,He]
   refine Ok.ite (fun c => by have := of_decide_eq_true c; omega) fun _ => ?_
   have hfl : (Io M i (M.length - i) (0 : Int)).length = M.length := Xl (by omega)
   refine Ok.guard (by omega) (Ok.guard (by omega) (Ok.guard (by rw [hfl]; omega) (Ok.ret ⟨by simp only; rw [hfl,hM],hi,?_,rfl⟩)))
   simp only
   rw [Wa (by omega),ht]
 ·rw [h1,Option.elim_none]
  refine Ok.ite (fun _ => Ok.ret ⟨rfl,Nat.le_refl _,?_,rfl⟩) fun c => by simp at c
  simp only [List.take_length]
  symm
  rw [List.filter_eq_self]
  intro x hx
  rw [List.find?_eq_none] at h2'
  have := h2' x hx
  simpa using this
theorem AcF {B : List Int} (hb : B.length ≤ 9223372036854775807) (L : List Int) (h2 : L.length ≤ 1000000) :
  Ok (Bx L B) (fun r => r.2.1.length = L.length ∧ r.1 ≤ L.length ∧ r.2.1.take r.1 = L.filter (fun x => B.contains x) ∧ r.2.2 = B) := by
 have hff : L.filter (fun x => !(!B.contains x)) = L.filter (fun x => B.contains x) := by
  congr 1
  funext x
  simp
 unfold Bx Cp
 rw [if_pos (by omega),Om (p := fun x => !B.contains x) (fun k x n => by
  unfold Dr
  rw [AaM hb,Option.bind_some]) rfl]
 refine Ok.step rfl ?_
 rcases Un (fun x => !B.contains x) L 0 with ⟨i,h1,h2',h3⟩ | ⟨h1,h2'⟩
 ·rw [h2',Option.elim_some]
  refine Ok.ite (fun c => by have := beq_iff_eq.mp c; omega) fun _ => ?_
  have e1 : w64 ((i : Int) + 1) = ((i + 1 : Nat) : Int) := by
   rw [Ar (by omega) (by omega)]
   omega
  rw [e1]
  have hh := List.findIdx?_eq_some_iff_getElem.mp h2'
  obtain ⟨g1,g2,g3⟩ := hh
  refine Aci (p := fun x => !B.contains x) (d := 0) h2 h1 ?_ ?_ ?_ ?_
  ·intro x hx
   obtain ⟨j,hj,rfl⟩ := List.getElem_of_mem hx
   rw [List.length_take] at hj
   rw [List.getElem_take]
   have := g3 j (by omega)
   simpa using this
  ·rw [Gv h1]
   exact g2
  ·intro M i j n hM hij hj hn
   unfold Ck Bt
   simp only
   have ei : Int.toNat (i : Int) = i := by omega
   have ej : Int.toNat (j : Int) = j := by omega
   rw [ei,ej]
   refine Ok.ite (fun _ => ?_) fun c => by
    have := of_decide_eq_false c
    omega
   refine Ok.guard (by omega) (Ok.guard (by omega) ?_)
   rw [AaM hb,Option.bind_some]
   have ej1 : w64 ((j : Int) + 1) = ((j + 1 : Nat) : Int) := by
    rw [Ar (by omega) (by omega)]
    omega
   have ei1 : w64 ((i : Int) + 1) = ((i + 1 : Nat) : Int) := by
    rw [Ar (by omega) (by omega)]
    omega
   rw [ej1,ei1]
   refine Ok.ite (fun c => ?_) fun c => ?_
   ·refine Ok.guard (by omega) (Ok.guard (by omega) (hn _ ?_))
    rw [if_neg]
    simpa using c
   ·refine hn _ ?_
    rw [if_pos]
    rw [Bool.not_eq_false'] at c
    exact c
  ·intro M i n hM hi ht
   unfold Ck
   simp only
   have ei : Int.toNat (i : Int) = i := by omega
   rw [ei,He]
   refine Ok.ite (fun c => by have := of_decide_eq_true c; omega) fun _ => ?_
   have hfl : (Io M i (M.length - i) (0 : Int)).length = M.length := Xl (by omega)
   refine Ok.guard (by omega) (Ok.guard (by omega) (Ok.guard (by rw [hfl]; omega) (Ok.ret ⟨by simp only; rw [hfl,hM],hi,?_,rfl⟩)))
   simp only
   rw [Wa (by omega),ht]
   exact hff
 ·rw [h1,Option.elim_none]
  refine Ok.ite (fun _ => Ok.ret ⟨rfl,Nat.le_refl _,?_,rfl⟩) fun c => by simp at c
  simp only [List.take_length]
  symm
  rw [List.filter_eq_self]
  intro x hx
  rw [List.find?_eq_none] at h2'
  have := h2' x hx
  simpa using this
def Jt (A B : List Int) : List Int := A.filter (fun x => !B.contains x)
def Qv (A B : List Int) : List Int := A.filter (fun x => B.contains x)
def Oa (A B : List Int) : List Int := if (Qv A B).length > 0 then Qv A B else B
theorem Aem {A B : List Int} (h : Asc A) (ha : A.length ≤ 1000) (hb : B.length ≤ 9223372036854775807) : Qb A B = some (Jt A B) := by
 unfold Qb Jc
 obtain ⟨r,d1,d2,d3,d4,d5⟩ := AcQ hb A (by omega)
 rw [Ye ha h,Option.bind_some,d1,Option.bind_some,if_pos d2.symm,if_pos (by omega),Option.bind_some,d4]
 rfl
theorem Acd {A B : List Int} (h : Asc A) (ha : A.length ≤ 1000) (hb : B.length ≤ 9223372036854775807) : Mm A B = some (Qv A B) := by
 unfold Mm Hp
 obtain ⟨r,d1,d2,d3,d4,d5⟩ := AcF hb A (by omega)
 rw [Ye ha h,Option.bind_some,d1,Option.bind_some,if_pos d2.symm,if_pos (by omega),Option.bind_some,d4]
 rfl
theorem among_eq {A B : List Int} (h : Asc A) (ha : A.length ≤ 1000) (hb : B.length ≤ 1000) : Pe A B = some (Oa A B) := by
 unfold Pe Oa
 rw [Acd h ha (by omega),Option.bind_some]
 by_cases c : (Qv A B).length > 0
 ·rw [if_pos c,if_pos (by simpa using c)]
 ·rw [if_neg c,if_neg (by simpa using c),Sd (by omega),Option.bind_some]
structure FitsS (t : Ab) (l : List Ac) : Prop where
 wf : WfT t
 grp : l.map (·.group) = t.nodes.map (·.id)
 chk : ∀ x ∈ l,CheckP x.settings
theorem FitsS.len {t : Ab} {l : List Ac} (f : FitsS t l) : l.length = t.nodes.length := by
 have := congrArg List.length f.grp
 simpa using this
theorem Aca {t : Ab} {l : List Ac} (hm : ∀ x ∈ t.nodes,AbR x) (ht : t.nodes.length ≤ 1000000) (hl : l.length ≤ 1000000) (hs : ∀ x ∈ l,Fp x.settings) : Ok (Oc t l) (fun b => b = true ↔ FitsS t l) := by
 unfold Oc
 by_cases w : WfT t
 ·rw [AeS w,Option.bind_some,if_neg (by simp)]
  unfold Jx
  refine Ok.ite (fun c => Ok.ret ?_) fun c => ?_
  ·have c : ¬ ((l.length : Nat) : Int) = ((t.nodes.length : Nat) : Int) := by simpa using c
   simp only [Bool.false_eq_true,false_iff]
   intro f
   have := f.len
   omega
  ·have hlen : l.length = t.nodes.length := by
    have c : ((l.length : Nat) : Int) = ((t.nodes.length : Nat) : Int) := by simpa using c
    omega
   refine Ok.guard (by omega) ?_
   refine Ok.range (fun pre _ => (l.take pre.length).map (·.group) = pre.map (·.id) ∧ ∀ x ∈ l.take pre.length,CheckP x.settings) ⟨by simp,by simp⟩ ?_ ?_
   ·intro pre x post s n he hp hn
    unfold Tn Lv
    have hpl : pre.length + 1 ≤ t.nodes.length := by rw [he]; simp
    have htk : l.take (pre.length + 1) = l.take pre.length ++ [l.getD pre.length default] := by
     rw [List.take_add_one,List.getElem?_eq_getElem (by omega),Option.toList_some,Gv (by omega)]
    have hmem : l.getD pre.length default ∈ l := Tz (by omega)
    have hx : t.nodes.getD pre.length default = x := by rw [he]; exact AaC
    refine Ok.guard (by omega) (Ok.ite (fun c => Ok.ret ?_) fun c => Ok.guard (by omega) ?_)
    ·have c : ¬ (l.getD pre.length default).group = x.id := by simpa using c
     simp only [Bool.false_eq_true,false_iff]
     intro f
     apply c
     have := congrArg (fun q => q[pre.length]?) f.grp
     simp only [List.getElem?_map] at this
     rw [List.getElem?_eq_getElem (by omega),List.getElem?_eq_getElem (by omega)] at this
     simp only [Option.map_some,Option.some.injEq] at this
     rw [Gv (by omega),this,← Gv (d := default) (by omega),hx]
    ·have c : (l.getD pre.length default).group = x.id := by simpa using c
     obtain ⟨b,hb,hbi⟩ := Abo (hs _ hmem)
     rw [hb,Option.bind_some]
     refine Ok.ite (fun c2 => Ok.ret ?_) fun c2 => hn () ⟨?_,?_⟩
     ·simp only [Bool.false_eq_true,false_iff]
      intro f
      rw [hbi.mpr (f.chk _ hmem)] at c2
      simp at c2
     ·rw [List.length_append,List.length_singleton,htk,List.map_append,List.map_append,hp.1,List.map_singleton,List.map_singleton,c]
     ·rw [List.length_append,List.length_singleton,htk]
      intro y hy
      rcases List.mem_append.mp hy with h | h
      ·exact hp.2 y h
      ·simp only [List.mem_singleton] at h
       subst h
       exact hbi.mp (by simpa using c2)
   ·intro s hp
    refine Ok.of_eq (b := true) rfl ?_
    have : l.take t.nodes.length = l := List.take_of_length_le (by omega)
    rw [this] at hp
    simp only [true_iff]
    exact ⟨w,hp.1,hp.2⟩
 ·rw [AeK hm w,Option.bind_some,if_pos (by simp)]
  unfold Jx
  rw [if_pos rfl]
  exact Ok.ret (by simp only [Bool.false_eq_true,false_iff]; exact fun f => w f.wf)
structure Usable (t : Ab) (l : List Ac) (on : List Int) (n : Int) : Prop where
 fits : FitsS t l
 pos : 0 < on.length
 set : okSet n on
theorem Agf {t : Ab} {l : List Ac} {on : List Int} {n : Int} (hm : ∀ x ∈ t.nodes,AbR x) (ht : t.nodes.length ≤ 1000000) (hl : l.length ≤ 1000000) (hs : ∀ x ∈ l,Fp x.settings) (ho : on.length ≤ 9223372036854775807) :
  Ok (Ke t l on n) (fun b => b = true ↔ Usable t l on n) := by
 unfold Ke Ka
 have h := Eb (Aca hm ht hl hs) (R := 0 < on.length ∧ okSet n on) (rest := (if (decide (((on.length : Nat) : Int) > 0)) then (Option.bind (Jo on n) fun r4 => some r4) else some false)) fun _ => by
  refine Ok.ite (fun c => ?_) fun c => Ok.ret ?_
  ·have c : 0 < on.length := by have := of_decide_eq_true c; omega
   refine (Vp (Mt on n ho)).mono fun b hb => ?_
   rw [hb]
   simp [c]
  ·have c := of_decide_eq_false c
   simp only [Bool.false_eq_true,false_iff]
   intro ⟨h,_⟩
   omega
 exact h.mono fun b hb => hb.trans ⟨fun ⟨a,b,c⟩ => ⟨a,b,c⟩,fun u => ⟨u.fits,u.pos,u.set⟩⟩
end Go.Dm

/- Plain theory of processor sets, part 3: how a group's share is divided. -/
namespace Go.Dm
set_option linter.unusedVariables false
set_option linter.unusedSimpArgs false
theorem Aei {S R : Type} {B : Int → S → (S → Option R) → Option R} {D : S → Option R} {r : R} (I : (Int → Bool) → S → Prop)
  (step : ∀ rem s n N,rem n = true → I rem s → (∀ s',I (Aw rem n false) s' → N s' = some r) → B n s N = some r) (fin : ∀ s,I (fun _ => false) s → D s = some r) :
  ∀ (m : Nat) (ks : List Int) (rem : Int → Bool) (s : S),ks.Nodup → ks.length < m → (∀ n,rem n = true ↔ n ∈ ks) → I rem s → rangeM B D m rem s = some r := by
 intro m
 induction m with
 | zero => intro ks rem s _ h; omega
 | succ m ih =>
  intro ks rem s hn hl hr hi
  rw [rangeM]
  by_cases h0 : ∀ n,rem n = false
  ·rw [if_pos h0]
   have : rem = fun _ => false := funext h0
   subst this
   exact fin s hi
  ·rw [if_neg h0]
   have key : ∀ n,rem n = true → B n s (rangeM B D m (Aw rem n false)) = some r := by
    intro n hrn
    have hnk := (hr n).mp hrn
    refine step rem s n _ hrn hi fun s' hi' => ?_
    refine ih (ks.filter (fun k => k != n)) (Aw rem n false) s' (hn.sublist List.filter_sublist) ?_ (fun k => ?_) hi'
    ·have : (ks.filter (fun k => k != n)).length < ks.length := by
      apply List.length_filter_lt_length_iff_exists.mpr
      exact ⟨n,hnk,by simp⟩
     omega
    ·simp only [Aw,List.mem_filter,bne_iff_ne,ne_eq]
     split
     ·rename_i e; subst e; simp
     ·rename_i e; rw [hr k]; simp [e]
   have hex : ∃ r,∀ n,rem n = true → B n s (rangeM B D m (Aw rem n false)) = some r := ⟨r,key⟩
   rw [dif_pos hex]
   have h1 : ∃ n,rem n = true := by
    by_cases h : ∃ n,rem n = true
    ·exact h
    ·exact absurd (fun n => by
      cases hq : rem n with
      | false => rfl
      | true => exact absurd ⟨n,hq⟩ h) h0
   obtain ⟨n,hn1⟩ := h1
   have := hex.choose_spec n hn1
   rw [key n hn1] at this
   exact this.symm
def Ue (al : Bool) (left : List Int) (s : Ao) : Bool := s.partition == 1 && al && decide (0 < s.cpus.length) && s.cpus.all (fun x => left.contains x) && decide (s.cpus.length < left.length)
def Ch (l : List Ac) (al : Bool) : List Int → List Int → List Int × List Int
 | [],left => (left,[])
 | c :: r,left => if Ue al left (cfg l c) then ((Ch l al r (Jt left (cfg l c).cpus)).1,c :: (Ch l al r (Jt left (cfg l c).cpus)).2) else Ch l al r left
theorem Xw {l : List Ac} {al : Bool} {x : Int} : ∀ (pre : List Int) (left : List Int),
  Ch l al (pre ++ [x]) left = if Ue al (Ch l al pre left).1 (cfg l x) then (Jt (Ch l al pre left).1 (cfg l x).cpus,(Ch l al pre left).2 ++ [x]) else Ch l al pre left
 | [],left => by
  by_cases h : Ue al left (cfg l x) = true <;> simp [Ch,h]
 | c :: r,left => by
  rw [List.cons_append,Ch,Xw r left,Xw r (Jt left (cfg l c).cpus)]
  rw [Ch]
  by_cases h : Ue al left (cfg l c) = true
  ·rw [if_pos h,if_pos h]
   simp only
   split <;> simp
  ·rw [if_neg h,if_neg h]
theorem Mb {l : List Ac} {al : Bool} : ∀ (ks left : List Int),(∀ x ∈ (Ch l al ks left).1,x ∈ left) ∧ (∀ c ∈ (Ch l al ks left).2,c ∈ ks) ∧ (Asc left → Asc (Ch l al ks left).1)
 | [],left => by simp [Ch]
 | c :: r,left => by
  rw [Ch]
  by_cases h : Ue al left (cfg l c) = true
  ·rw [if_pos h]
   obtain ⟨h1,h2,h3⟩ := Mb r (Jt left (cfg l c).cpus) (l := l) (al := al)
   refine ⟨fun x hx => (List.mem_filter.mp (h1 x hx)).1,fun d hd => ?_,fun ha => h3 (Py _ ha)⟩
   rcases List.mem_cons.mp hd with rfl | hd
   ·simp
   ·simp [h2 d hd]
  ·rw [if_neg h]
   obtain ⟨h1,h2,h3⟩ := Mb r left (l := l) (al := al)
   exact ⟨h1,fun d hd => by simp [h2 d hd],h3⟩
def AbS (t : Ab) (l : List Ac) (g : Int) (s : List Int) (al : Bool) : List Int := (Ch l al (Ay t g) s).1
def Ls (t : Ab) (l : List Ac) (g : Int) (s : List Int) (al : Bool) : List Int := (Ch l al (Ay t g) s).2
def stC (t : Ab) (l : List Ac) (on : List Int) : List Int → List Int × Bool
 | [] => ([],false)
 | [_] => (on,false)
 | c :: p :: r =>
  if (Ls t l p (stC t l on (p :: r)).1 (p == 1 || (stC t l on (p :: r)).2)).contains c then ((cfg l c).cpus,true)
  else (Oa (cfg l c).cpus (AbS t l p (stC t l on (p :: r)).1 (p == 1 || (stC t l on (p :: r)).2)),false)
def Cu (t : Ab) (l : List Ac) (on : List Int) (g : Int) : List Int := (stC t l on (upT t g)).1
def Dq (t : Ab) (l : List Ac) (on : List Int) (g : Int) : Bool := (stC t l on (upT t g)).2
def Dz (t : Ab) (l : List Ac) (on : List Int) (g : Int) : Bool := g == 1 || Dq t l on g
def Jw (t : Ab) (l : List Ac) (on : List Int) (g : Int) : List Int := AbS t l g (Cu t l on g) (Dz t l on g)
def Gx (t : Ab) (l : List Ac) (on : List Int) (g : Int) : List Int := Ls t l g (Cu t l on g) (Dz t l on g)
def Bn (t : Ab) (g x : Int) : Bool := (upT t x).contains g
variable {t : Ab} {l : List Ac} {on : List Int}
theorem below_iff {g x : Int} : Bn t g x = true ↔ g ∈ upT t x := by simp [Bn]
theorem Ra (w : WfT t) {g c : Int} (hc : c ∈ Ay t g) : upT t c = c :: upT t g ∧ Ea t c = true ∧ g < c := by
 obtain ⟨x,hx,rfl,rfl⟩ := kids_iff.mp hc
 exact ⟨w.up hx,hasN_iff.mpr ⟨x,hx,rfl⟩,w.par_lt hx⟩
theorem AdE (w : WfT t) : upT t 1 = [1] := by
 obtain ⟨x,r,e,hr⟩ := w.root
 have hx : x ∈ t.nodes := by rw [e]; simp
 have := w.up hx
 rw [hr.id,hr.parent,w.upZero] at this
 exact this
theorem Vw (w : WfT t) : Cu t l on 1 = on ∧ Dq t l on 1 = false := by
 unfold Cu Dq
 rw [AdE w]
 exact ⟨rfl,rfl⟩
theorem AbH {g : Int} (w : WfT t) (h : Ea t g = true) : ∃ r,upT t g = g :: r := ⟨_,up_cons w h⟩
theorem Nk (w : WfT t) {g c : Int} (hg : Ea t g = true) (hc : c ∈ Ay t g) :
  Dq t l on c = (Gx t l on g).contains c ∧ Cu t l on c = (if (Gx t l on g).contains c then (cfg l c).cpus else Oa (cfg l c).cpus (Jw t l on g)) := by
 obtain ⟨e1,e2,e3⟩ := Ra w hc
 obtain ⟨r,er⟩ := AbH w hg
 unfold Dq Cu
 rw [e1,er,stC]
 unfold Gx Jw Cu Dz Dq
 rw [er]
 by_cases h : (Ls t l g (stC t l on (g :: r)).1 (g == 1 || (stC t l on (g :: r)).2)).contains c = true
 ·rw [if_pos h,if_pos h,h]
  exact ⟨rfl,rfl⟩
 ·rw [if_neg h,if_neg h]
  simp only [Bool.not_eq_true] at h
  rw [h]
  exact ⟨rfl,rfl⟩
def setsA (t : Ab) (l : List Ac) (on : List Int) (g : Int) (m : IMap (List Int)) : IMap (List Int) := ⟨fun x => Bn t g x || m.has x,fun x => if Bn t g x then Jw t l on x else m.get x⟩
def partA (t : Ab) (l : List Ac) (on : List Int) (g : Int) (m : IMap Bool) : IMap Bool := ⟨fun x => (Bn t g x && x != g && Dq t l on x) || m.has x,fun x => if Bn t g x && x != g && Dq t l on x then true else m.get x⟩
def Gt (m : IMap Bool) (ps : List Int) : IMap Bool := ⟨fun x => ps.contains x || m.has x,fun x => if ps.contains x then true else m.get x⟩
def Nc (l : List Ac) (ps : List Int) : IMap (List Int) := ⟨fun x => ps.contains x,fun x => if ps.contains x then (cfg l x).cpus else []⟩
def Mo (l : List Ac) (ps ms : List Int) (left : List Int) : IMap (List Int) := ⟨fun x => ms.contains x || ps.contains x,fun x => if ms.contains x then Oa (cfg l x).cpus left else if ps.contains x then (cfg l x).cpus else []⟩
theorem IMap.ext' {α : Type} {m n : IMap α} (h1 : ∀ x,m.has x = n.has x) (h2 : ∀ x,m.get x = n.get x) : m = n := by
 cases m
 cases n
 congr
 ·funext x; exact h1 x
 ·funext x; exact h2 x
theorem AeW (m : IMap Bool) (ps : List Int) (x : Int) : (Gt m ps).set x true = Gt m (ps ++ [x]) := by
 apply IMap.ext'
 ·intro y
  simp only [IMap.set,Gt,Aw,List.contains_eq_mem,List.mem_append,List.mem_singleton]
  by_cases h : y = x
  ·simp [h]
  ·simp [h]
 ·intro y
  simp only [IMap.set,Gt,Aw,List.contains_eq_mem,List.mem_append,List.mem_singleton,decide_eq_true_eq]
  by_cases h : y = x
  ·simp [h]
  ·simp [h]
theorem Afw (ps : List Int) (x : Int) : (Nc l ps).set x (cfg l x).cpus = Nc l (ps ++ [x]) := by
 apply IMap.ext'
 ·intro y
  simp only [IMap.set,Nc,Aw,List.contains_eq_mem,List.mem_append,List.mem_singleton]
  by_cases h : y = x
  ·simp [h]
  ·simp [h]
 ·intro y
  simp only [IMap.set,Nc,Aw,List.contains_eq_mem,List.mem_append,List.mem_singleton,decide_eq_true_eq]
  by_cases h : y = x
  ·simp [h]
  ·simp [h]
theorem AfG (ps ms left : List Int) (x : Int) : (Mo l ps ms left).set x (Oa (cfg l x).cpus left) = Mo l ps (ms ++ [x]) left := by
 apply IMap.ext'
 ·intro y
  simp only [IMap.set,Mo,Aw,List.contains_eq_mem,List.mem_append,List.mem_singleton]
  by_cases h : y = x
  ·simp [h]
  ·simp [h]
 ·intro y
  simp only [IMap.set,Mo,Aw,List.contains_eq_mem,List.mem_append,List.mem_singleton,decide_eq_true_eq]
  by_cases h : y = x
  ·simp [h]
  ·simp [h]
theorem Agu (ps left : List Int) : Nc l ps = Mo l ps [] left := by
 apply IMap.ext'
 ·intro y; simp [Nc,Mo]
 ·intro y; simp [Nc,Mo]
structure UseS (t : Ab) (l : List Ac) (on : List Int) : Prop where
 fits : FitsS t l
 pos : 0 < on.length
 set : okSet 16 on
theorem CheckP.small {s : Ao} (h : CheckP s) : s.cpus.length ≤ 16 ∧ s.mems.length ≤ 8 ∧ Asc s.cpus ∧ Asc s.mems := by
 obtain ⟨_,_,_,_,_,h1,h2,_,_,_⟩ := h
 have a1 := h1.len (by omega)
 have a2 := h2.len (by omega)
 exact ⟨by omega,by omega,h1.1,h2.1⟩
theorem cfg_mem {P : Ao → Prop} (h : ∀ x ∈ l,P x.settings) (hd : P dfS) (g : Int) : P (cfg l g) := by
 unfold cfg
 cases hf : l.find? (fun x => x.group == g) with
 | none => exact hd
 | some x => exact h x (List.mem_of_find?_eq_some hf)
theorem FitsS.cfg (f : FitsS t l) (g : Int) : CheckP (cfg l g) := cfg_mem f.chk Adm g
theorem Ya (on16 : okSet 16 on) {L : List Int} (h : ∀ x ∈ L,x ∈ on) (ha : Asc L) : L.length ≤ 16 := by
 have := (show okSet 16 L from ⟨ha,fun x hx => on16.2 x (h x hx)⟩).len (by omega)
 omega
end Go.Dm

/- Plain theory of processor sets, part 4: the plan of the program. -/
namespace Go.Dm
set_option linter.unusedVariables false
set_option linter.unusedSimpArgs false
variable {t : Ab} {l : List Ac} {on : List Int}
theorem cond_iff {al : Bool} {left : List Int} {s : Ao} : Ue al left s = true ↔ s.partition = 1 ∧ al = true ∧ 0 < s.cpus.length ∧ (∀ y ∈ s.cpus,y ∈ left) ∧ s.cpus.length < left.length := by
 simp [Ue,and_assoc]
theorem Ph {al : Bool} (hc : ∀ c,Asc (cfg l c).cpus) : ∀ (ks left : List Int),Asc left →
  (∀ c ∈ (Ch l al ks left).2,al = true ∧ (cfg l c).partition = 1 ∧ 0 < (cfg l c).cpus.length ∧ ∀ y ∈ (cfg l c).cpus,y ∈ left ∧ y ∉ (Ch l al ks left).1) ∧
  (∀ y ∈ left,y ∈ (Ch l al ks left).1 ∨ ∃ c ∈ (Ch l al ks left).2,y ∈ (cfg l c).cpus) ∧
  (ks.Nodup → ∀ c ∈ (Ch l al ks left).2,∀ d ∈ (Ch l al ks left).2,∀ y,y ∈ (cfg l c).cpus → y ∈ (cfg l d).cpus → c = d) ∧
  (0 < left.length → 0 < (Ch l al ks left).1.length)
 | [],left,ha => by simp [Ch]
 | c :: r,left,ha => by
  rw [Ch]
  by_cases h : Ue al left (cfg l c) = true
  ·rw [if_pos h]
   obtain ⟨c1,c2,c3,c4,c5⟩ := cond_iff.mp h
   have hm : ∀ y,y ∈ Jt left (cfg l c).cpus ↔ y ∈ left ∧ y ∉ (cfg l c).cpus := by
    intro y
    simp [Jt]
   obtain ⟨h1,h2,h3,h4⟩ := Ph (al := al) hc r (Jt left (cfg l c).cpus) (Py _ ha)
   obtain ⟨s1,s2,s3⟩ := Mb (l := l) (al := al) r (Jt left (cfg l c).cpus)
   refine ⟨fun d hd => ?_,fun y hy => ?_,fun hn d hd e he y hyd hye => ?_,fun hpos => h4 ?_⟩
   ·simp only
    rcases List.mem_cons.mp hd with rfl | hd
    ·exact ⟨c2,c1,c3,fun y hy => ⟨c4 y hy,fun hy2 => ((hm y).mp (s1 y hy2)).2 hy⟩⟩
    ·obtain ⟨g1,g2,g3,g4⟩ := h1 d hd
     exact ⟨g1,g2,g3,fun y hy => ⟨((hm y).mp (g4 y hy).1).1,(g4 y hy).2⟩⟩
   ·simp only
    by_cases hyc : y ∈ (cfg l c).cpus
    ·exact .inr ⟨c,by simp,hyc⟩
    ·rcases h2 y ((hm y).mpr ⟨hy,hyc⟩) with g | ⟨d,hd,g⟩
     ·exact .inl g
     ·exact .inr ⟨d,by simp [hd],g⟩
   ·simp only at hd he
    rw [List.nodup_cons] at hn
    rcases List.mem_cons.mp hd with rfl | hd <;> rcases List.mem_cons.mp he with rfl | he
    ·rfl
    ·exact absurd hyd ((hm y).mp ((h1 e he).2.2.2 y hye).1).2
    ·exact absurd hye ((hm y).mp ((h1 d hd).2.2.2 y hyd).1).2
    ·exact h3 hn.2 d hd e he y hyd hye
   ·apply Nat.pos_of_ne_zero
    intro h0
    have he := List.eq_nil_of_length_eq_zero h0
    have : left.length ≤ (cfg l c).cpus.length := Pq (Nj ha) fun y hy => by
     by_cases hyc : y ∈ (cfg l c).cpus
     ·exact hyc
     ·have := (hm y).mpr ⟨hy,hyc⟩
      rw [he] at this
      simp at this
    omega
  ·rw [if_neg h]
   obtain ⟨h1,h2,h3,h4⟩ := Ph (al := al) hc r left ha
   exact ⟨h1,h2,fun hn => h3 (List.nodup_cons.mp hn).2,h4⟩
theorem UseS.asc (u : UseS t l on) (c : Int) : Asc (cfg l c).cpus := (u.fits.cfg c).small.2.2.1
theorem UseS.w (u : UseS t l on) : WfT t := u.fits.wf
theorem among_mem {A B : List Int} : ∀ y ∈ Oa A B,y ∈ B := by
 intro y hy
 unfold Oa at hy
 split at hy
 ·simp only [Qv,List.mem_filter,List.contains_eq_mem,decide_eq_true_eq] at hy
  exact hy.2
 ·exact hy
theorem among_asc {A B : List Int} (ha : Asc A) (hb : Asc B) : Asc (Oa A B) := by
 unfold Oa
 split
 ·exact Py _ ha
 ·exact hb
theorem among_pos {A B : List Int} (hb : 0 < B.length) : 0 < (Oa A B).length := by
 unfold Oa
 split
 ·assumption
 ·exact hb
theorem share_ok (u : UseS t l on) : ∀ x ∈ t.nodes,Asc (Cu t l on x.id) ∧ (∀ y ∈ Cu t l on x.id,y ∈ on) ∧ 0 < (Cu t l on x.id).length := by
 refine u.w.induct fun x hx ih => ?_
 rcases u.w.p.par x hx with ⟨h1,_⟩ | ⟨_,_,⟨y,hy,hyp⟩,_⟩
 ·rw [h1,(Vw u.w).1]
  exact ⟨u.set.1,fun y hy => hy,u.pos⟩
 ·obtain ⟨i1,i2,i3⟩ := ih y hy hyp
  rw [hyp] at i1 i2 i3
  have hg : Ea t x.parent = true := hasN_iff.mpr ⟨y,hy,hyp⟩
  have hk : x.id ∈ Ay t x.parent := kids_iff.mpr ⟨x,hx,rfl,rfl⟩
  obtain ⟨e1,e2⟩ := Nk (l := l) (on := on) u.w hg hk
  rw [e2]
  obtain ⟨p1,p2,p3,p4⟩ := Ph (al := Dz t l on x.parent) u.asc (Ay t x.parent) _ i1
  obtain ⟨s1,s2,s3⟩ := Mb (l := l) (al := Dz t l on x.parent) (Ay t x.parent) (Cu t l on x.parent)
  split
  ·rename_i hc
   have hc : x.id ∈ Gx t l on x.parent := by simpa using hc
   obtain ⟨_,_,q3,q4⟩ := p1 _ hc
   exact ⟨u.asc _,fun y hy => i2 y (q4 y hy).1,q3⟩
  ·exact ⟨among_asc (u.asc _) (s3 i1),fun y hy => i2 y (s1 y (among_mem y hy)),among_pos (p4 i3)⟩
theorem Pr (u : UseS t l on) {g : Int} (h : Ea t g = true) : Asc (Cu t l on g) ∧ (∀ y ∈ Cu t l on g,y ∈ on) ∧ 0 < (Cu t l on g).length ∧ (Cu t l on g).length ≤ 16 := by
 obtain ⟨x,hx,rfl⟩ := hasN_iff.mp h
 obtain ⟨h1,h2,h3⟩ := share_ok u x hx
 exact ⟨h1,h2,h3,Ya u.set h2 h1⟩
theorem Wh (u : UseS t l on) {g : Int} (h : Ea t g = true) : Asc (Jw t l on g) ∧ (∀ y ∈ Jw t l on g,y ∈ Cu t l on g) ∧ 0 < (Jw t l on g).length ∧ (Jw t l on g).length ≤ 16 := by
 obtain ⟨h1,h2,h3,_⟩ := Pr u h
 obtain ⟨p1,p2,p3,p4⟩ := Ph (al := Dz t l on g) u.asc (Ay t g) _ h1
 obtain ⟨s1,s2,s3⟩ := Mb (l := l) (al := Dz t l on g) (Ay t g) (Cu t l on g)
 exact ⟨s3 h1,s1,p4 h3,Ya u.set (fun y hy => h2 y (s1 y hy)) (s3 h1)⟩
theorem Afq (u : UseS t l on) (hs : ∀ x ∈ l,Fp x.settings) {g : Int} {al : Bool} {p : plan} (ht : p.tree = t) (hl : p.configs = l) (hg : Ea t g = true) {s : List Int} (ha : Asc s) (h16 : s.length ≤ 16)
  (hal : p.partitions.get g = al) {rec : plan → Int → List Int → Option plan} {Q : plan → Prop}
  (fin : Ok (Im rec p g (Nc l (Ls t l g s al),(Ay t g).filter (fun c => !(Ls t l g s al).contains c),Gt p.partitions (Ls t l g s al),AbS t l g s al)) Q) :
  Ok (Iw rec p g s) Q := by
 have hlen := u.fits.len
 have hn := u.w.len2
 unfold Iw
 rw [ht,AbE t g (by omega),Option.bind_some]
 have hk := AaQ t g
 refine Ok.guard (by omega) ?_
 refine Ok.range (fun pre s1 => s1 = (Nc l (Ch l al pre s).2,pre.filter (fun c => !(Ch l al pre s).2.contains c),Gt p.partitions (Ch l al pre s).2,(Ch l al pre s).1)) ?_ ?_ ?_
 ·have e0 : Gt p.partitions [] = p.partitions := by apply IMap.ext' <;> intro y <;> simp [Gt]
  simp only [Ch,List.filter_nil,e0]
  rfl
 ·intro pre x post s1 n he hI hn2
  subst hI
  have hxk : x ∈ Ay t g := by rw [he]; simp
  obtain ⟨e1,e2,e3⟩ := Ra u.w hxk
  have hnd : (pre ++ x :: post).Nodup := by rw [← he]; exact Aat u.w g
  have hxpre : x ∉ pre := fun h => by
   rw [List.nodup_append] at hnd
   exact hnd.2.2 x h x (by simp) rfl
  obtain ⟨s1',s2',s3'⟩ := Mb (l := l) (al := al) pre s
  have hgpre : g ∉ (Ch l al pre s).2 := fun h => by
   have hgk : g ∈ Ay t g := by rw [he]; simp [s2' g h]
   have := (Ra u.w hgk).2.2
   omega
  have hlen16 : (Ch l al pre s).1.length ≤ 16 := by
   have := Pq (Nj (s3' ha)) s1'
   omega
  unfold Mp Es Ik
  rw [hl,Xt (by omega) hs,Option.bind_some]
  have hget : (Gt p.partitions (Ch l al pre s).2).get g = al := by
   simp only [Gt,List.contains_eq_mem,hgpre,decide_false,Bool.false_eq_true,if_false]
   exact hal
  have hcs := (u.fits.cfg x).small
  have hW : Oh (cfg l x).cpus (Ch l al pre s).1 = some ((cfg l x).cpus.all (fun y => (Ch l al pre s).1.contains y)) := AdA (by omega) (by omega)
  have hyes : Ue al (Ch l al pre s).1 (cfg l x) = true → Ok (Option.bind (Qb (Ch l al pre s).1 (cfg l x).cpus) fun r88 => n ((Nc l (Ch l al pre s).2).set x (cfg l x).cpus,pre.filter (fun c => !(Ch l al pre s).2.contains c),(Gt p.partitions (Ch l al pre s).2).set x true,r88)) Q := by
   intro hc
   rw [Aem (s3' ha) (by omega) (by omega),Option.bind_some,Afw,AeW]
   refine hn2 _ ?_
   rw [Xw,if_pos hc]
   simp only
   congr 1
   congr 1
   rw [List.filter_append]
   have h1 : pre.filter (fun c => !((Ch l al pre s).2 ++ [x]).contains c) = pre.filter (fun c => !(Ch l al pre s).2.contains c) := by
    apply List.filter_congr
    intro c hc2
    have : c ≠ x := fun e => hxpre (e ▸ hc2)
    simp [this]
   rw [h1]
   simp
  have hno : ¬ Ue al (Ch l al pre s).1 (cfg l x) = true → Ok (if (pre.filter (fun c => !(Ch l al pre s).2.contains c)).length + 1 ≤ 1073741824 then n (Nc l (Ch l al pre s).2,pre.filter (fun c => !(Ch l al pre s).2.contains c) ++ [x],Gt p.partitions (Ch l al pre s).2,(Ch l al pre s).1) else none) Q := by
   intro hc
   have hpl : pre.length ≤ (Ay t g).length := by rw [he]; simp
   have := List.length_filter_le (fun c => !(Ch l al pre s).2.contains c) pre
   refine Ok.guard (by omega) (hn2 _ ?_)
   rw [Xw,if_neg hc,List.filter_append]
   have : x ∉ (Ch l al pre s).2 := fun h => hxpre (s2' x h)
   simp [this]
  simp only [hget]
  by_cases c1 : (cfg l x).partition = 1
  ·rw [if_pos (by simpa using c1)]
   cases al with
   | true =>
    rw [if_pos rfl]
    by_cases c3 : 0 < (cfg l x).cpus.length
    ·rw [if_pos (by simpa using c3),hW,Option.bind_some]
     by_cases c4 : (cfg l x).cpus.all (fun y => (Ch l true pre s).1.contains y) = true
     ·rw [if_pos c4]
      by_cases c5 : (cfg l x).cpus.length < (Ch l true pre s).1.length
      ·rw [if_pos (by simpa using c5)]
       exact hyes (cond_iff.mpr ⟨c1,rfl,c3,by simpa using c4,c5⟩)
      ·rw [if_neg (by simpa using c5)]
       exact hno fun h => c5 (cond_iff.mp h).2.2.2.2
     ·rw [if_neg c4,if_neg (by simp)]
      exact hno fun h => c4 (by simpa using (cond_iff.mp h).2.2.2.1)
    ·rw [if_neg (by simpa using c3),if_neg (by simp)]
     exact hno fun h => c3 (cond_iff.mp h).2.2.1
   | false =>
    rw [if_neg (by simp),if_neg (by simp)]
    exact hno fun h => by have := (cond_iff.mp h).2.1; simp at this
  ·rw [if_neg (by simpa using c1),if_neg (by simp)]
   exact hno fun h => c1 (cond_iff.mp h).1
 ·intro s1 hI
  subst hI
  exact fin
theorem Aex (u : UseS t l on) (hs : ∀ x ∈ l,Fp x.settings) {g : Int} {p : plan} (hl : p.configs = l) {ps ms left : List Int} {q : IMap Bool} (h16 : left.length ≤ 16) (hms : ms.length ≤ 64)
  {rec : plan → Int → List Int → Option plan} {Q : plan → Prop} (fin : Ok (Jl rec p g (Nc l ps,ms,q,left) (Mo l ps ms left)) Q) : Ok (Im rec p g (Nc l ps,ms,q,left)) Q := by
 have hlen := u.fits.len
 have hn := u.w.len2
 unfold Im
 refine Ok.guard (by simp only; omega) ?_
 refine Ok.range (fun pre s1 => s1 = Mo l ps pre left) (Agu ps left) ?_ ?_
 ·intro pre x post s1 n he hI hn2
  subst hI
  unfold Ma
  have hcs := (u.fits.cfg x).small
  rw [hl,Xt (by omega) hs,Option.bind_some,among_eq hcs.2.2.1 (by omega) (by simp only; omega),Option.bind_some]
  simp only
  rw [AfG]
  exact hn2 _ rfl
 ·intro s1 hI
  subst hI
  exact fin
theorem Sa (w : WfT t) {g c x : Int} (hg : Ea t g = true) (hc : c ∈ Ay t g) (h : Bn t c x = true) : Bn t g x = true ∧ x ≠ g := by
 rw [below_iff] at h ⊢
 obtain ⟨n,hn,hnx⟩ := Mq h
 subst hnx
 obtain ⟨e1,e2,e3⟩ := Ra w hc
 obtain ⟨r,er⟩ := AbH w hg
 have hcn : g ∈ upT t c := by
  rw [e1,er]
  simp
 refine ⟨up_trans w hcn n hn h,fun e => ?_⟩
 have := up_le w n hn c h
 omega
theorem Qw (w : WfT t) {g x : Int} (hg : Ea t g = true) : Bn t g x = true ↔ x = g ∨ ∃ c ∈ Ay t g,Bn t c x = true := by
 constructor
 ·intro h
  obtain ⟨n,hn,hnx⟩ := Mq (below_iff.mp h)
  subst hnx
  rcases up_child w n hn (below_iff.mp h) with h | ⟨c,hc,h⟩
  ·exact .inl h
  ·exact .inr ⟨c,hc,below_iff.mpr h⟩
 ·rintro (rfl | ⟨c,hc,h⟩)
  ·obtain ⟨r,er⟩ := AbH w hg
   rw [below_iff,er]
   simp
  ·exact (Sa w hg hc h).1
theorem AaX (w : WfT t) {g c d x : Int} (hc : c ∈ Ay t g) (hd : d ∈ Ay t g) (h1 : Bn t c x = true) (h2 : Bn t d x = true) : c = d := by
 obtain ⟨y,hy,hyp,hyc⟩ := kids_iff.mp hc
 obtain ⟨z,hz,hzp,hzd⟩ := kids_iff.mp hd
 obtain ⟨n,hn,hnx⟩ := Mq (below_iff.mp h1)
 subst hnx
 have := up_one w hy hz hyp hzp n hn (by rw [hyc]; exact below_iff.mp h1) (by rw [hzd]; exact below_iff.mp h2)
 rw [← hyc,← hzd,this]
theorem Sp (w : WfT t) {g : Int} (hg : Ea t g = true) : Bn t g g = true := by
 obtain ⟨r,er⟩ := AbH w hg
 rw [below_iff,er]
 simp
def AaE (t : Ab) (l : List Ac) (on : List Int) (g : Int) (rem : Int → Bool) (m : IMap (List Int)) : IMap (List Int) :=
 ⟨fun x => (x == g || (Ay t g).any (fun c => !rem c && Bn t c x)) || m.has x,fun x => if x == g || (Ay t g).any (fun c => !rem c && Bn t c x) then Jw t l on x else m.get x⟩
def Tl (t : Ab) (l : List Ac) (on : List Int) (g : Int) (rem : Int → Bool) (m : IMap Bool) : IMap Bool :=
 ⟨fun x => (Ay t g).any (fun c => !rem c && Bn t c x && x != c && Dq t l on x) || m.has x,fun x => if (Ay t g).any (fun c => !rem c && Bn t c x && x != c && Dq t l on x) then true else m.get x⟩
theorem Agl (w : WfT t) {g n : Int} {rem : Int → Bool} (hg : Ea t g = true) (hn : n ∈ Ay t g) (m : IMap (List Int)) :
  setsA t l on n (AaE t l on g rem m) = AaE t l on g (Aw rem n false) m := by
 have key : ∀ x,(Bn t n x || (x == g || (Ay t g).any (fun c => !rem c && Bn t c x))) = (x == g || (Ay t g).any (fun c => !(Aw rem n false) c && Bn t c x)) := by
  intro x
  rw [Bool.eq_iff_iff]
  simp only [Bool.or_eq_true,beq_iff_eq,List.any_eq_true,Bool.and_eq_true,Bool.not_eq_true',Aw]
  constructor
  ·rintro (h | h | ⟨c,hc,h1,h2⟩)
   ·exact .inr ⟨n,hn,by simp,h⟩
   ·exact .inl h
   ·refine .inr ⟨c,hc,?_,h2⟩
    split
    ·rfl
    ·exact h1
  ·rintro (h | ⟨c,hc,h1,h2⟩)
   ·exact .inr (.inl h)
   ·by_cases e : c = n
    ·subst e; exact .inl h2
    ·rw [if_neg e] at h1
     exact .inr (.inr ⟨c,hc,h1,h2⟩)
 apply IMap.ext'
 ·intro x
  show (Bn t n x || ((x == g || (Ay t g).any (fun c => !rem c && Bn t c x)) || m.has x)) = ((x == g || (Ay t g).any (fun c => !(Aw rem n false) c && Bn t c x)) || m.has x)
  rw [← Bool.or_assoc,key x]
 ·intro x
  show (if Bn t n x = true then Jw t l on x else if (x == g || (Ay t g).any (fun c => !rem c && Bn t c x)) = true then Jw t l on x else m.get x) = (if (x == g || (Ay t g).any (fun c => !(Aw rem n false) c && Bn t c x)) = true then Jw t l on x else m.get x)
  rw [← key x]
  cases Bn t n x <;> simp
theorem Agt (w : WfT t) {g n : Int} {rem : Int → Bool} (hg : Ea t g = true) (hn : n ∈ Ay t g) (m : IMap Bool) :
  partA t l on n (Tl t l on g rem m) = Tl t l on g (Aw rem n false) m := by
 have key : ∀ x,((Bn t n x && x != n && Dq t l on x) || (Ay t g).any (fun c => !rem c && Bn t c x && x != c && Dq t l on x)) = (Ay t g).any (fun c => !(Aw rem n false) c && Bn t c x && x != c && Dq t l on x) := by
  intro x
  rw [Bool.eq_iff_iff]
  simp only [Bool.or_eq_true,List.any_eq_true,Bool.and_eq_true,Bool.not_eq_true',Aw,bne_iff_ne,ne_eq]
  constructor
  ·rintro (⟨⟨h1,h2⟩,h3⟩ | ⟨c,hc,⟨⟨h1,h2⟩,h3⟩,h4⟩)
   ·exact ⟨n,hn,⟨⟨by simp,h1⟩,h2⟩,h3⟩
   ·refine ⟨c,hc,⟨⟨?_,h2⟩,h3⟩,h4⟩
    split
    ·rfl
    ·exact h1
  ·rintro ⟨c,hc,⟨⟨h1,h2⟩,h3⟩,h4⟩
   by_cases e : c = n
   ·subst e; exact .inl ⟨⟨h2,h3⟩,h4⟩
   ·rw [if_neg e] at h1
    exact .inr ⟨c,hc,⟨⟨h1,h2⟩,h3⟩,h4⟩
 apply IMap.ext'
 ·intro x
  show ((Bn t n x && x != n && Dq t l on x) || ((Ay t g).any (fun c => !rem c && Bn t c x && x != c && Dq t l on x) || m.has x)) = _
  rw [← Bool.or_assoc,key x]
  rfl
 ·intro x
  show (if (Bn t n x && x != n && Dq t l on x) = true then true else if (Ay t g).any (fun c => !rem c && Bn t c x && x != c && Dq t l on x) = true then true else m.get x) = (if (Ay t g).any (fun c => !(Aw rem n false) c && Bn t c x && x != c && Dq t l on x) = true then true else m.get x)
  rw [← key x]
  cases (Bn t n x && x != n && Dq t l on x) <;> simp
theorem Abc (w : WfT t) {g c : Int} (hg : Ea t g = true) (hc : c ∈ Ay t g) : c ≠ 1 := by
 obtain ⟨e1,e2,e3⟩ := Ra w hc
 obtain ⟨x,hx,rfl⟩ := hasN_iff.mp hg
 have := w.id_pos hx
 omega
theorem divide_t (u : UseS t l on) (hs : ∀ x ∈ l,Fp x.settings) : ∀ (n : Nat) (g : Int) (p : plan),(t.next - g).toNat < n → Ea t g = true → p.tree = t → p.configs = l → p.partitions.get g = Dz t l on g →
  (∀ x,Bn t g x = true → x ≠ g → p.partitions.get x = false) →
  Ge n p g (Cu t l on g) = some { tree := t,configs := l,sets := setsA t l on g p.sets,partitions := partA t l on g p.partitions } := by
 intro n
 have w := u.w
 induction n with
 | zero => intro g p h; omega
 | succ n ih =>
  intro g p hlt hg ht hl hal hbl
  have hgn : g < t.next := by
   obtain ⟨x,hx,rfl⟩ := hasN_iff.mp hg
   exact w.next x hx
  obtain ⟨q1,q2,q3,q4⟩ := Pr u hg
  obtain ⟨o1,o2,o3,o4⟩ := Wh u hg
  have hkl := AaQ t g
  have hnl := w.len2
  rw [Ge]
  apply Ok.eq
  refine Afq u hs ht hl hg q1 q4 hal ?_
  have hmsl := List.length_filter_le (fun c => !(Ls t l g (Cu t l on g) (Dz t l on g)).contains c) (Ay t g)
  have o4' : (AbS t l g (Cu t l on g) (Dz t l on g)).length ≤ 16 := o4
  refine Aex u hs hl o4' (by omega) ?_
  unfold Jl
  have hgiven : Mo l (Ls t l g (Cu t l on g) (Dz t l on g)) ((Ay t g).filter (fun c => !(Ls t l g (Cu t l on g) (Dz t l on g)).contains c)) (AbS t l g (Cu t l on g) (Dz t l on g)) =
    ⟨fun c => (Ay t g).contains c,fun c => if (Ay t g).contains c then Cu t l on c else []⟩ := by
   obtain ⟨s1,s2,s3⟩ := Mb (l := l) (al := Dz t l on g) (Ay t g) (Cu t l on g)
   have hpk : ∀ c,c ∈ Ls t l g (Cu t l on g) (Dz t l on g) → c ∈ Ay t g := s2
   apply IMap.ext'
   ·intro c
    simp only [Mo,List.contains_eq_mem,List.mem_filter]
    rw [Bool.eq_iff_iff]
    simp only [Bool.or_eq_true,decide_eq_true_eq,Bool.not_eq_true',decide_eq_false_iff_not]
    constructor
    ·rintro (h | h)
     ·exact h.1
     ·exact hpk c h
    ·intro h
     by_cases hp : c ∈ Ls t l g (Cu t l on g) (Dz t l on g)
     ·exact .inr hp
     ·exact .inl ⟨h,hp⟩
   ·intro c
    by_cases hck : c ∈ Ay t g
    ·have hsk := (Nk (l := l) (on := on) w hg hck).2
     simp only [Mo,List.contains_eq_mem,List.mem_filter,hck,true_and,decide_true,if_true,hsk]
     by_cases hp : c ∈ Ls t l g (Cu t l on g) (Dz t l on g)
     ·simp [hp,Gx]
     ·simp [hp,Gx,Jw]
    ·have hnp : c ∉ Ls t l g (Cu t l on g) (Dz t l on g) := fun h => hck (hpk c h)
     simp [Mo,hck,hnp]
  rw [hgiven]
  have hset : p.sets.set g (AbS t l g (Cu t l on g) (Dz t l on g)) = AaE t l on g (fun c => (Ay t g).contains c) p.sets := by
   apply IMap.ext'
   ·intro x
    simp only [IMap.set,Aw,AaE]
    by_cases e : x = g
    ·simp [e]
    ·have : (Ay t g).any (fun c => !(Ay t g).contains c && Bn t c x) = false := by
      rw [List.any_eq_false]
      intro c hc
      simp [hc]
     rw [if_neg e,this]
     simp [e]
   ·intro x
    simp only [IMap.set,Aw,AaE]
    have : (Ay t g).any (fun c => !(Ay t g).contains c && Bn t c x) = false := by
     rw [List.any_eq_false]
     intro c hc
     simp [hc]
    rw [this]
    by_cases e : x = g
    ·subst e; simp [Jw]
    ·simp [e]
  have hpart : Gt p.partitions (Ls t l g (Cu t l on g) (Dz t l on g)) = Tl t l on g (fun c => (Ay t g).contains c) (Gt p.partitions (Gx t l on g)) := by
   have hz : ∀ x,(Ay t g).any (fun c => !(Ay t g).contains c && Bn t c x && x != c && Dq t l on x) = false := by
    intro x
    rw [List.any_eq_false]
    intro c hc
    simp [hc]
   apply IMap.ext'
   ·intro x
    simp only [Tl,hz x,Bool.false_or]
    rfl
   ·intro x
    simp only [Tl,hz x]
    rfl
  refine Ok.of_eq (b := { tree := t,configs := l,sets := setsA t l on g p.sets,partitions := partA t l on g p.partitions }) ?_ rfl
  refine Aei (fun rem s => (∀ c,rem c = true → c ∈ Ay t g) ∧ s = (t.nodes,t.next,l,AaE t l on g rem p.sets,Tl t l on g rem (Gt p.partitions (Gx t l on g)))) ?_ ?_ Fw (Ay t g) _ _ (Aat w g) (by rw [Fa]; omega) (by simp) ⟨by simp,?_⟩
  ·rintro rem s c N hrc ⟨hrk,rfl⟩ hN
   have hck := hrk c hrc
   obtain ⟨e1,e2,e3⟩ := Ra w hck
   unfold Mc
   simp only [List.contains_eq_mem,hck,decide_true,if_true]
   have hpget : (Tl t l on g rem (Gt p.partitions (Gx t l on g))).get c = Dz t l on c := by
    have hz : (Ay t g).any (fun d => !rem d && Bn t d c && c != d && Dq t l on c) = false := by
     rw [List.any_eq_false]
     intro d hd
     simp only [Bool.and_eq_true,bne_iff_ne,ne_eq,not_and,Bool.not_eq_true]
     intro ⟨⟨_,h1⟩,h2⟩
     exact absurd (AaX w hck hd (Sp w e2) h1) h2
    have h1 : Dz t l on c = (Gx t l on g).contains c := by
     have := Abc w hg hck
     rw [← (Nk (l := l) (on := on) w hg hck).1]
     simp [Dz,this]
    simp only [Tl,hz,Bool.false_eq_true,if_false,Gt,h1]
    rw [hbl c (Sa w hg hck (Sp w e2)).1 (Sa w hg hck (Sp w e2)).2]
    cases (Gx t l on g).contains c <;> rfl
   have hpbl : ∀ x,Bn t c x = true → x ≠ c → (Tl t l on g rem (Gt p.partitions (Gx t l on g))).get x = false := by
    intro x hx hxc
    have hz : (Ay t g).any (fun d => !rem d && Bn t d x && x != d && Dq t l on x) = false := by
     rw [List.any_eq_false]
     intro d hd
     simp only [Bool.and_eq_true,bne_iff_ne,ne_eq,not_and,Bool.not_eq_true,Bool.not_eq_true']
     intro ⟨⟨h0,h1⟩,_⟩
     have := AaX w hck hd hx h1
     subst this
     rw [hrc] at h0
     simp at h0
    have hnp : x ∉ Gx t l on g := by
     intro hxp
     have hxk : x ∈ Ay t g := (Mb (l := l) (al := Dz t l on g) (Ay t g) (Cu t l on g)).2.1 x hxp
     exact hxc (AaX w hck hxk hx (Sp w (Ra w hxk).2.1)).symm
    obtain ⟨b1,b2⟩ := Sa w hg hck hx
    simp only [Tl,hz,Bool.false_eq_true,if_false,Gt,List.contains_eq_mem,hnp,decide_false]
    exact hbl x b1 b2
   have := ih c { tree := t,configs := l,sets := AaE t l on g rem p.sets,partitions := Tl t l on g rem (Gt p.partitions (Gx t l on g)) } (by omega) e2 rfl rfl hpget hpbl
   rw [this,Option.bind_some]
   simp only
   rw [Agl w hg hck,Agt w hg hck]
   refine hN _ ⟨fun d hd => ?_,rfl⟩
   simp only [Aw] at hd
   split at hd
   ·simp at hd
   ·exact hrk d hd
  ·rintro s ⟨_,rfl⟩
   unfold Ly
   simp only
   congr 1
   congr 1
   ·apply IMap.ext'
    ·intro x
     show ((x == g || (Ay t g).any (fun c => !false && Bn t c x)) || p.sets.has x) = (Bn t g x || p.sets.has x)
     congr 1
     rw [Bool.eq_iff_iff,Qw w hg]
     simp
    ·intro x
     show (if (x == g || (Ay t g).any (fun c => !false && Bn t c x)) = true then _ else _) = (if Bn t g x = true then _ else _)
     have : (x == g || (Ay t g).any (fun c => !false && Bn t c x)) = Bn t g x := by
      rw [Bool.eq_iff_iff,Qw w hg]
      simp
     rw [this]
   ·have key : ∀ x,((Ay t g).any (fun c => !false && Bn t c x && x != c && Dq t l on x) || (Gx t l on g).contains x) = (Bn t g x && x != g && Dq t l on x) := by
     intro x
     rw [Bool.eq_iff_iff]
     simp only [Bool.or_eq_true,List.any_eq_true,Bool.and_eq_true,bne_iff_ne,ne_eq,Bool.not_false,true_and]
     constructor
     ·rintro (⟨c,hc,⟨h1,h2⟩,h3⟩ | h)
      ·obtain ⟨b1,b2⟩ := Sa w hg hc h1
       exact ⟨⟨b1,b2⟩,h3⟩
      ·have hxp : x ∈ Gx t l on g := by simpa using h
       have hxk : x ∈ Ay t g := (Mb (l := l) (al := Dz t l on g) (Ay t g) (Cu t l on g)).2.1 x hxp
       obtain ⟨b1,b2⟩ := Sa w hg hxk (Sp w (Ra w hxk).2.1)
       exact ⟨⟨b1,b2⟩,by rw [(Nk (l := l) (on := on) w hg hxk).1]; exact h⟩
     ·rintro ⟨⟨h1,h2⟩,h3⟩
      rcases (Qw w hg).mp h1 with h | ⟨c,hc,h⟩
      ·exact absurd h h2
      ·by_cases e : x = c
       ·subst e
        right
        rw [(Nk (l := l) (on := on) w hg hc).1] at h3
        exact h3
       ·exact .inl ⟨c,hc,⟨h,e⟩,h3⟩
    apply IMap.ext'
    ·intro x
     show ((Ay t g).any (fun c => !false && Bn t c x && x != c && Dq t l on x) || ((Gx t l on g).contains x || p.partitions.has x)) = ((Bn t g x && x != g && Dq t l on x) || p.partitions.has x)
     rw [← Bool.or_assoc,key x]
    ·intro x
     show (if (Ay t g).any (fun c => !false && Bn t c x && x != c && Dq t l on x) = true then true else if (Gx t l on g).contains x = true then true else p.partitions.get x) = (if (Bn t g x && x != g && Dq t l on x) = true then true else p.partitions.get x)
     rw [← key x]
     cases (Ay t g).any (fun c => !false && Bn t c x && x != c && Dq t l on x) <;> simp
  ·rw [ht,hl,hset,hpart]
end Go.Dm

/- Plain theory of processor sets, part 5: what the program answers. -/
namespace Go.Dm
set_option linter.unusedVariables false
set_option linter.unusedSimpArgs false
variable {t : Ab} {l : List Ac} {on : List Int}
theorem Wc (w : WfT t) (x : Int) : Bn t 1 x = Ea t x := by
 rw [Bool.eq_iff_iff,below_iff]
 constructor
 ·intro h
  obtain ⟨n,hn,rfl⟩ := Mq h
  exact hasN_iff.mpr ⟨n,hn,rfl⟩
 ·intro h
  obtain ⟨n,hn,rfl⟩ := hasN_iff.mp h
  refine w.induct (P := fun n => (1 : Int) ∈ upT t n.id) (fun n hn ih => ?_) n hn
  rcases w.p.par n hn with ⟨h1,_⟩ | ⟨_,_,⟨y,hy,hyp⟩,_⟩
  ·rw [h1,AdE w]
   simp
  ·have := ih y hy hyp
   rw [hyp] at this
   rw [w.up hn]
   simp [this]
def Ih (t : Ab) (l : List Ac) (on : List Int) : List Int := (t.nodes.map (·.id)).filter (fun x => x != 1 && Dq t l on x)
theorem Vr (w : WfT t) : Asc (Ih t l on) := by
 refine Py _ ?_
 rw [Asc,List.pairwise_map]
 exact w.sorted
theorem aloneL_mem {x : Int} : x ∈ Ih t l on ↔ Ea t x = true ∧ x ≠ 1 ∧ Dq t l on x = true := by
 unfold Ih
 rw [List.mem_filter,hasN_iff]
 simp
theorem Aav : (Ih t l on).length ≤ t.nodes.length := by
 unfold Ih
 have := List.length_filter_le (fun x => x != 1 && Dq t l on x) (t.nodes.map (·.id))
 simpa using this
theorem of_t (u : UseS t l on) (hs : ∀ x ∈ l,Fp x.settings) :
  ∃ p,Rv t l on = some p ∧ (∀ x,p.sets.get x = if Ea t x then Jw t l on x else []) ∧ ∀ x,p.partitions.has x = true ↔ x ∈ Ih t l on := by
 have w := u.w
 have h16 := Ya u.set (fun x h => h) u.set.1
 have hroot := Vw (l := l) (on := on) w
 have hnx := w.nextLe
 have e := divide_t u hs Fw 1 { tree := t,configs := l,sets := IMap.empty ([] : List Int),partitions := (IMap.empty false).set 1 true } (by rw [Fa]; omega) (Rk w) rfl rfl (by simp [IMap.set,Aw,Dz]) (fun x hx hx1 => by simp [IMap.set,Aw,hx1,IMap.empty])
 rw [hroot.1] at e
 unfold Rv Oo
 rw [Sd (by omega),Option.bind_some,e,Option.bind_some]
 refine ⟨_,rfl,fun x => ?_,fun x => ?_⟩
 ·simp only [setsA,IMap.empty,Wc w]
 ·simp only [IMap.del,partA,IMap.set,IMap.empty,Aw,Wc w,aloneL_mem]
  by_cases h1 : x = 1
  ·simp [h1]
  ·simp [h1,and_assoc]
theorem UseS.iff : Usable t l on 16 ↔ UseS t l on := ⟨fun u => ⟨u.fits,u.pos,u.set⟩,fun u => ⟨u.fits,u.pos,u.set⟩⟩
theorem AeN (u : UseS t l on) (hs : ∀ x ∈ l,Fp x.settings) : Ke t l on 16 = some true := by
 have h16 := Ya u.set (fun x h => h) u.set.1
 have hl := u.fits.len
 have hn := u.w.len2
 obtain ⟨b,h1,h2⟩ := Agf (t := t) (l := l) (on := on) (n := 16) u.w.p.names (by omega) (by omega) hs (by omega)
 rw [h1,h2.mpr (UseS.iff.mpr u)]
theorem Abt (u : UseS t l on) (hs : ∀ x ∈ l,Fp x.settings) (g : Int) : Ec t l on g = some (if Ea t g then Jw t l on g else []) := by
 obtain ⟨p,h1,h2,_⟩ := of_t u hs
 unfold Ec
 rw [AeN u hs,Option.bind_some,if_neg (by simp),h1,Option.bind_some,h2 g]
 have hlen : (if Ea t g then Jw t l on g else []).length ≤ 16 := by
  split
  ·rename_i h; exact (Wh u h).2.2.2
  ·simp
 rw [Sd (by omega),Option.bind_some]
theorem sort_to {L K : List Int} (hn : L.Nodup) (hm : ∀ x,x ∈ L ↔ x ∈ K) (hk : Asc K) (hl : L.length ≤ 1000) : Hq L = some K := by
 obtain ⟨M,h1,h2,h3⟩ := Sort_ok L hl
 have hnd : M.Nodup := h2.nodup_iff.mpr hn
 have ha : Asc M := by
  have := List.pairwise_and_iff.mpr ⟨h3,hnd⟩
  exact this.imp fun ⟨a,b⟩ => by omega
 rw [h1,Aab ha hk fun x => h2.mem_iff.trans (hm x)]
theorem Abz (u : UseS t l on) (hs : ∀ x ∈ l,Fp x.settings) : Iz t l on = some (Ih t l on) := by
 obtain ⟨p,h1,_,h3⟩ := of_t u hs
 have w := u.w
 have hn := w.len2
 have hal := Aav (t := t) (l := l) (on := on)
 unfold Iz
 rw [AeN u hs,Option.bind_some,if_neg (by simp),h1,Option.bind_some]
 refine Aei (fun rem s => s.Nodup ∧ (∀ x,rem x = true → x ∈ Ih t l on) ∧ ∀ x,x ∈ s ↔ x ∈ Ih t l on ∧ rem x = false) ?_ ?_ Fw (Ih t l on) _ _ (Nj (Vr w)) (by rw [Fa]; omega) (fun n => h3 n) ⟨List.nodup_nil,fun x hx => (h3 x).mp hx,fun x => ?_⟩
 ·rintro rem s n N hr ⟨i1,i2,i3⟩ hN
  unfold Ow
  have hsl : s.length ≤ (Ih t l on).length := Pq i1 fun x hx => ((i3 x).mp hx).1
  rw [if_pos (by omega)]
  have hns : n ∉ s := fun h => by
   have := ((i3 n).mp h).2
   rw [hr] at this
   simp at this
  refine hN _ ⟨?_,fun x hx => ?_,fun x => ?_⟩
  ·rw [List.nodup_append]
   exact ⟨i1,by simp,fun a ha b hb => by simp at hb; subst hb; exact fun e => hns (e ▸ ha)⟩
  ·simp only [Aw] at hx
   split at hx
   ·simp at hx
   ·exact i2 x hx
  ·rw [List.mem_append,List.mem_singleton,i3 x]
   simp only [Aw]
   by_cases e : x = n
   ·subst e
    simp [i2 x hr]
   ·simp [e]
 ·rintro s ⟨i1,_,i3⟩
  unfold Ox
  have hsl : s.length ≤ (Ih t l on).length := Pq i1 fun x hx => ((i3 x).mp hx).1
  have hm : ∀ x,x ∈ s ↔ x ∈ Ih t l on := fun x => by rw [i3 x]; simp
  rw [sort_to i1 hm (Vr w) (by omega),Option.bind_some,if_pos]
  have h2 : (Ih t l on).length ≤ s.length := Pq (Nj (Vr w)) fun x hx => (hm x).mpr hx
  omega
 ·simp only [List.not_mem_nil,false_iff,not_and,Bool.not_eq_false]
  exact fun h => (h3 x).mpr h
theorem Afu (u : UseS t l on) (hs : ∀ x ∈ l,Fp x.settings) (g : Int) : Ic t l on g = some ((Ih t l on).contains g) := by
 have hn := u.w.len2
 have hal := Aav (t := t) (l := l) (on := on)
 unfold Ic
 rw [Abz u hs,Option.bind_some,AaI _ _ (by omega),Option.bind_some]
theorem Set_ok {d : Ag} (hd : Cv d) {n : Int} (n0 : 0 ≤ n) (n1 : n ≤ 1000) : Ok (Kb d n) (fun r => okSet n r.1 ∧ Cv r.2) := by
 unfold Kb
 refine Ok.guard (by omega) ?_
 have e : Int.toNat (n - 0) = n.toNat := by simp
 rw [e]
 refine Ok.for (fun j s => Cv s.1 ∧ Asc s.2 ∧ ∀ x ∈ s.2,0 ≤ x ∧ x < (j : Int)) ⟨hd,List.Pairwise.nil,fun x hx => by simp at hx⟩ ?_ ?_
 ·rintro j ⟨d,L⟩ m hj ⟨hd,ha,hb⟩ hm
  unfold Ta Lq
  simp only at hd ha hb
  have hlen := AdI ha hb
  refine Ok.bind (Sc hd 3 (by omega)) fun r hd => ?_
  refine Ok.ite (fun _ => Ok.guard (by simp only; omega) (hm _ ⟨hd,?_,?_⟩)) fun _ => hm _ ⟨hd,ha,fun x hx => ⟨(hb x hx).1,by have := (hb x hx).2; omega⟩⟩
  ·exact AcE ha fun y hy => by have := (hb y hy).2; omega
  ·intro x hx
   rcases List.mem_append.mp hx with h | h
   ·exact ⟨(hb x h).1,by have := (hb x h).2; omega⟩
   ·simp only [List.mem_singleton] at h
    subst h
    omega
 ·rintro ⟨d,L⟩ ⟨hd,ha,hb⟩
  unfold Sj
  exact Ok.ret ⟨⟨ha,fun x hx => ⟨(hb x hx).1,by have := (hb x hx).2; omega⟩⟩,hd⟩
theorem Online_ok {d : Ag} (hd : Cv d) {n : Int} (n0 : 1 ≤ n) (n1 : n ≤ 1000) : Ok (Lf d n) (fun r => okSet n r.1 ∧ 0 < r.1.length ∧ Cv r.2) := by
 unfold Lf
 refine Ok.bind (Set_ok hd (by omega) n1) fun r ⟨hs,hd⟩ => ?_
 refine Ok.ite (fun c => Ok.ret ⟨hs,by have := of_decide_eq_true c; simp only; omega,hd⟩) fun _ => Ok.guard (by omega) ?_
 have e : Int.toNat (n - 0) = n.toNat := by simp
 rw [e]
 refine Ok.for (fun j s => s.length = j ∧ Asc s ∧ ∀ x ∈ s,0 ≤ x ∧ x < (j : Int)) ⟨rfl,List.Pairwise.nil,fun x hx => by simp at hx⟩ ?_ ?_
 ·rintro j L m hj ⟨hl,ha,hb⟩ hm
  unfold Pl
  refine Ok.guard (by omega) (hm _ ⟨by simp [hl],?_,?_⟩)
  ·exact AcE ha fun y hy => by have := (hb y hy).2; omega
  ·intro x hx
   rcases List.mem_append.mp hx with h | h
   ·exact ⟨(hb x h).1,by have := (hb x h).2; omega⟩
   ·simp only [List.mem_singleton] at h
    subst h
    omega
 ·rintro L ⟨hl,ha,hb⟩
  unfold Pt
  exact Ok.ret ⟨⟨ha,fun x hx => ⟨(hb x hx).1,by have := (hb x hx).2; omega⟩⟩,by simp only; omega,hd⟩
def newL (t : Ab) : List Ac := t.nodes.map (fun x => { group := x.id,settings := dfS })
theorem AfB (w : WfT t) : Us t = some (newL t) := by
 have hn := w.len2
 unfold Us Sv
 rw [Sx w,Option.bind_some,if_neg (by simp),if_pos (by omega)]
 have e : ∀ x : Int,Ln [] x = some dfS := fun x => Abl (by simp) (by simp) x
 rw [Lj (p := fun _ => true) (f := fun x : Ah => ({ group := x.id,settings := dfS } : Ac)) (r := Pz) (fun k x s n hs => by
  unfold Tv
  rw [e,Option.bind_some,if_pos hs,if_pos rfl]) (fun _ => rfl) (by simp; omega)]
 unfold Pz
 have e2 : t.nodes.filter (fun _ => true) = t.nodes := List.filter_eq_self.mpr (fun _ _ => rfl)
 rw [e2]
 rfl
end Go.Dm

/- Plain theory of processor sets, part 6: the example; who shares what with whom. -/
namespace Go.Dm
set_option linter.unusedVariables false
set_option linter.unusedSimpArgs false
variable {t : Ab} {l : List Ac} {on : List Int}
def exT : Ab := { nodes := [{ id := 1,parent := 0,name := ByteArray.empty,control := 0,kind := 0,owner := 0 },{ id := 2,parent := 1,name := bs [97],control := 0,kind := 0,owner := 0 },{ id := 3,parent := 1,name := bs [98],control := 0,kind := 0,owner := 0 }],next := 4 }
def exS : Ao := { pidsMax := 4611686018427387904,weight := 100,quota := 4611686018427387904,period := 100000,burst := 0,clampMin := 0,clampMax := 10000,cpus := [2,3],mems := [],partition := 1,memory := { min := 0,low := 0,high := 4611686018427387904,max := 4611686018427387904,swapMax := 4611686018427387904,together := false },devices := [] }
def exL : List Ac := [{ group := 1,settings := dfS },{ group := 2,settings := exS },{ group := 3,settings := dfS }]
theorem exS_ok : CheckP exS := by
 have e1 : Fd exS.memory = some true := by kernel_rfl
 have e2 : El exS.devices = some true := by kernel_rfl
 refine ⟨.inl rfl,⟨by simp [exS],by simp [exS]⟩,?_,by simp [exS],by simp [exS],⟨by simp [exS,Asc],fun x hx => ?_⟩,⟨List.Pairwise.nil,fun x hx => by simp [exS] at hx⟩,by simp [exS],e1,e2⟩
 ·unfold BandP
  simp [exS]
 ·simp only [exS,List.mem_cons,List.not_mem_nil,or_false] at hx
  omega
theorem exS_small : Fp exS := ⟨by simp [exS],by simp [exS],by simp [exS]⟩
theorem ex_use (w : WfT exT) : UseS exT exL [0,1,2,3] := by
 refine ⟨⟨w,rfl,fun x hx => ?_⟩,by simp,⟨by simp [Asc],fun x hx => ?_⟩⟩
 ·simp only [exL,List.mem_cons,List.not_mem_nil,or_false] at hx
  rcases hx with rfl | rfl | rfl
  ·exact Adm
  ·exact exS_ok
  ·exact Adm
 ·simp only [List.mem_cons,List.not_mem_nil,or_false] at hx
  omega
theorem AeY : ∀ x ∈ exL,Fp x.settings := by
 intro x hx
 simp only [exL,List.mem_cons,List.not_mem_nil,or_false] at hx
 rcases hx with rfl | rfl | rfl
 ·exact AbA
 ·exact exS_small
 ·exact AbA
theorem Afc : Nu = some true := by
 have k1 : Nw newT 1 (bs [97]) = some ({ nodes := [{ id := 1,parent := 0,name := ByteArray.empty,control := 0,kind := 0,owner := 0 },{ id := 2,parent := 1,name := bs [97],control := 0,kind := 0,owner := 0 }],next := 3 },2,0) := by kernel_rfl
 have k2 : Nw { nodes := [{ id := 1,parent := 0,name := ByteArray.empty,control := 0,kind := 0,owner := 0 },{ id := 2,parent := 1,name := bs [97],control := 0,kind := 0,owner := 0 }],next := 3 } 1 (bs [98]) = some (exT,3,0) := by kernel_rfl
 have w1 := AdR AdK (p := 1) (s := bs [97]) (r := ({ nodes := [{ id := 1,parent := 0,name := ByteArray.empty,control := 0,kind := 0,owner := 0 },{ id := 2,parent := 1,name := bs [97],control := 0,kind := 0,owner := 0 }],next := 3 },2,0)) (by
  have := Aad AdK 1 (bs [97])
  rw [k1] at this
  exact (Option.some.inj this).symm) rfl
 have w : WfT exT := AdR w1 (p := 1) (s := bs [98]) (r := (exT,3,0)) (by
  have := Aad w1 1 (bs [98])
  simp only at this
  rw [k2] at this
  exact (Option.some.inj this).symm) rfl
 have u := ex_use w
 have hc := Abt u AeY
 have he := Afu u AeY
 have c2 : Ec exT exL [0,1,2,3] 2 = some [2,3] := by rw [hc]; kernel_rfl
 have c3 : Ec exT exL [0,1,2,3] 3 = some [0,1] := by rw [hc]; kernel_rfl
 have c1 : Ec exT exL [0,1,2,3] 1 = some [0,1] := by rw [hc]; kernel_rfl
 have e2 : Ic exT exL [0,1,2,3] 2 = some true := by rw [he]; kernel_rfl
 have s1 : Ig [2,3] [2,3] = some true := by kernel_rfl
 have s2 : Ig [0,1] [0,1] = some true := by kernel_rfl
 unfold Nu Lh
 rw [Acj,Option.bind_some,k1,Option.bind_some]
 simp only
 rw [k2,Option.bind_some]
 simp only
 rw [AfB w,Option.bind_some]
 have hl : (newL exT).length = 3 := rfl
 rw [if_pos (by omega),if_pos (by omega),Option.bind_some,if_pos (by omega),if_pos (by omega),Option.bind_some]
 have hset : ∀ x,x = exL → (Option.bind (Ec exT x [0,1,2,3] 2) fun r14 => (Option.bind (Ig r14 [2,3]) fun r15 => (if r15 then (Option.bind (Ec exT x [0,1,2,3] 3) fun r17 => (Option.bind (Ig r17 [0,1]) fun r18 => (if r18 then (Option.bind (Ec exT x [0,1,2,3] 1) fun r20 => (Option.bind (Ig r20 [0,1]) fun r21 => (if r21 then (Option.bind (Ic exT x [0,1,2,3] 2) fun r23 => some r23) else some false))) else some false))) else some false))) = some true := by
  rintro x rfl
  rw [c2,Option.bind_some,s1,Option.bind_some,if_pos rfl,c3,Option.bind_some,s2,Option.bind_some,if_pos rfl,c1,Option.bind_some,s2,Option.bind_some,if_pos rfl,e2,Option.bind_some]
 exact hset _ rfl
theorem Weight_ok {d : Ag} (hd : Cv d) : Ok (Ld d) (fun r => (1 ≤ r.1 ∧ r.1 ≤ 10000) ∧ Cv r.2) := by
 unfold Ld
 refine Ok.bind (Hy hd 1000 (by omega) (by omega)) fun r4 ⟨hd,a0,a1⟩ => Ok.bind (Hy hd 8 (by omega) (by omega)) fun r5 ⟨hd,b0,b1⟩ => ?_
 have hw : w64 (1 + r4.1) = 1 + r4.1 := Ar (by omega) (by omega)
 rw [hw]
 refine Ok.guard ⟨b0,by simp; omega⟩ (Ok.guard (by simp; omega) (Ok.ret ⟨?_,hd⟩))
 have : r5.1 = 0 ∨ r5.1 = 1 ∨ r5.1 = 2 ∨ r5.1 = 3 ∨ r5.1 = 4 ∨ r5.1 = 5 ∨ r5.1 = 6 ∨ r5.1 = 7 := by omega
 simp only
 rcases this with e | e | e | e | e | e | e | e <;> rw [e] <;> simp <;> omega
theorem Ys : Lk = some dfS := rfl
theorem Aaq {a b : Int} {L : List Int} (h : okSet a L) (hab : a ≤ b) : okSet b L := ⟨h.1,fun x hx => ⟨(h.2 x hx).1,by have := (h.2 x hx).2; omega⟩⟩
theorem AfH {d : Ag} (hd : Cv d) : Ok (Jv d) (fun r => CheckP r.1 ∧ Fp r.1 ∧ Cv r.2) := by
 unfold Jv
 rw [Ys,Option.bind_some]
 have h5 : ∀ (y1 : Ag × Int) (r5 : Int × Ag) (y2 : Ag × Int × Int) (r10 r11 r12 : Int × Ag) (y3 y4 : Ag × List Int) (r19 : Bool × Ag) (y5 : Int),
   (y1.2 = 4611686018427387904 ∨ (0 ≤ y1.2 ∧ y1.2 ≤ 1099511627776)) → (1 ≤ r5.1 ∧ r5.1 ≤ 10000) → (if y2.2.1 = 4611686018427387904 then y2.2.2 = 0 else (1 ≤ y2.2.1 ∧ y2.2.1 ≤ 1000000) ∧ 0 ≤ y2.2.2 ∧ y2.2.2 ≤ y2.2.1) →
   (0 ≤ r10.1 ∧ r10.1 < 9) → (0 ≤ r11.1 ∧ r11.1 < 10001) → (0 ≤ r12.1 ∧ r12.1 < 10001) → okSet 16 y3.2 → okSet 8 y4.2 → (0 ≤ y5 ∧ y5 ≤ 1) → Cv r19.2 →
   Ok (Hj dfS y1 r5 y2 r10 r11 r12 y3 y4 r19 y5) (fun r => CheckP r.1 ∧ Fp r.1 ∧ Cv r.2) := by
  intro y1 r5 y2 r10 r11 r12 y3 y4 r19 y5 a1 a2 a3 a4 a5 a6 a7 a8 a9 hd
  unfold Hj
  have hw : w64 (1 + r10.1) = 1 + r10.1 := Ar (by omega) (by omega)
  rw [hw]
  have e1 : Fd dfS.memory = some true := by kernel_rfl
  have e2 : El dfS.devices = some true := by kernel_rfl
  have l1 := a7.len (by omega)
  have l2 := a8.len (by omega)
  exact Ok.ret ⟨⟨a1,a2,⟨by simp only; omega,a3⟩,by simp only; omega,by simp only; omega,a7,a8,a9,e1,e2⟩,⟨by simp only; omega,by simp only; omega,by simp [dfS]⟩,hd⟩
 have h4 : ∀ (y1 : Ag × Int) (r5 : Int × Ag) (y2 : Ag × Int × Int) (r10 r11 r12 : Int × Ag) (y3 y4 : Ag × List Int),
   (y1.2 = 4611686018427387904 ∨ (0 ≤ y1.2 ∧ y1.2 ≤ 1099511627776)) → (1 ≤ r5.1 ∧ r5.1 ≤ 10000) → (if y2.2.1 = 4611686018427387904 then y2.2.2 = 0 else (1 ≤ y2.2.1 ∧ y2.2.1 ≤ 1000000) ∧ 0 ≤ y2.2.2 ∧ y2.2.2 ≤ y2.2.1) →
   (0 ≤ r10.1 ∧ r10.1 < 9) → (0 ≤ r11.1 ∧ r11.1 < 10001) → (0 ≤ r12.1 ∧ r12.1 < 10001) → okSet 16 y3.2 → okSet 8 y4.2 → Cv y4.1 →
   Ok (Hl dfS y1 r5 y2 r10 r11 r12 y3 y4) (fun r => CheckP r.1 ∧ Fp r.1 ∧ Cv r.2) := by
  intro y1 r5 y2 r10 r11 r12 y3 y4 a1 a2 a3 a4 a5 a6 a7 a8 hd
  unfold Hl
  exact Ok.bind (Sc hd 3 (by omega)) fun r19 hd => Ok.ite (fun _ => h5 _ _ _ _ _ _ _ _ _ _ a1 a2 a3 a4 a5 a6 a7 a8 (by omega) hd) fun _ => h5 _ _ _ _ _ _ _ _ _ _ a1 a2 a3 a4 a5 a6 a7 a8 (by simp [dfS]) hd
 have h3 : ∀ (y1 : Ag × Int) (r5 : Int × Ag) (y2 : Ag × Int × Int) (r10 r11 r12 : Int × Ag) (y3 : Ag × List Int),
   (y1.2 = 4611686018427387904 ∨ (0 ≤ y1.2 ∧ y1.2 ≤ 1099511627776)) → (1 ≤ r5.1 ∧ r5.1 ≤ 10000) → (if y2.2.1 = 4611686018427387904 then y2.2.2 = 0 else (1 ≤ y2.2.1 ∧ y2.2.1 ≤ 1000000) ∧ 0 ≤ y2.2.2 ∧ y2.2.2 ≤ y2.2.1) →
   (0 ≤ r10.1 ∧ r10.1 < 9) → (0 ≤ r11.1 ∧ r11.1 < 10001) → (0 ≤ r12.1 ∧ r12.1 < 10001) → okSet 16 y3.2 → Cv y3.1 →
   Ok (Hg dfS y1 r5 y2 r10 r11 r12 y3) (fun r => CheckP r.1 ∧ Fp r.1 ∧ Cv r.2) := by
  intro y1 r5 y2 r10 r11 r12 y3 a1 a2 a3 a4 a5 a6 a7 hd
  unfold Hg
  refine Ok.bind (Sc hd 2 (by omega)) fun r16 hd => Ok.ite (fun _ => ?_) fun _ => h4 _ _ _ _ _ _ _ _ a1 a2 a3 a4 a5 a6 a7 ⟨List.Pairwise.nil,fun x hx => by simp [dfS] at hx⟩ hd
  exact Ok.bind (Set_ok hd (n := 4) (by omega) (by omega)) fun r18 ⟨hs,hd⟩ => h4 _ _ _ _ _ _ _ _ a1 a2 a3 a4 a5 a6 a7 (Aaq hs (by omega)) hd
 have h2 : ∀ (y1 : Ag × Int) (r5 : Int × Ag) (y2 : Ag × Int × Int),
   (y1.2 = 4611686018427387904 ∨ (0 ≤ y1.2 ∧ y1.2 ≤ 1099511627776)) → (1 ≤ r5.1 ∧ r5.1 ≤ 10000) → (if y2.2.1 = 4611686018427387904 then y2.2.2 = 0 else (1 ≤ y2.2.1 ∧ y2.2.1 ≤ 1000000) ∧ 0 ≤ y2.2.2 ∧ y2.2.2 ≤ y2.2.1) →
   Cv y2.1 → Ok (Hd dfS y1 r5 y2) (fun r => CheckP r.1 ∧ Fp r.1 ∧ Cv r.2) := by
  intro y1 r5 y2 a1 a2 a3 hd
  unfold Hd
  refine Ok.bind (Hy hd 9 (by omega) (by omega)) fun r10 ⟨hd,b0,b1⟩ => Ok.bind (Hy hd 10001 (by omega) (by omega)) fun r11 ⟨hd,c0,c1⟩ => Ok.bind (Hy hd 10001 (by omega) (by omega)) fun r12 ⟨hd,d0,d1⟩ => ?_
  refine Ok.bind (Sc hd 2 (by omega)) fun r13 hd => Ok.ite (fun _ => ?_) fun _ => h3 _ _ _ _ _ _ _ a1 a2 a3 ⟨b0,b1⟩ ⟨c0,c1⟩ ⟨d0,d1⟩ ⟨List.Pairwise.nil,fun x hx => by simp [dfS] at hx⟩ hd
  exact Ok.bind (Set_ok hd (n := 6) (by omega) (by omega)) fun r15 ⟨hs,hd⟩ => h3 _ _ _ _ _ _ _ a1 a2 a3 ⟨b0,b1⟩ ⟨c0,c1⟩ ⟨d0,d1⟩ (Aaq hs (by omega)) hd
 have h1 : ∀ (y1 : Ag × Int),(y1.2 = 4611686018427387904 ∨ (0 ≤ y1.2 ∧ y1.2 ≤ 1099511627776)) → Cv y1.1 → Ok (Hh dfS y1) (fun r => CheckP r.1 ∧ Fp r.1 ∧ Cv r.2) := by
  intro y1 a1 hd
  unfold Hh
  refine Ok.bind (Weight_ok hd) fun r5 ⟨hw,hd⟩ => Ok.bind (Sc hd 2 (by omega)) fun r6 hd => Ok.ite (fun _ => ?_) fun _ => h2 _ _ _ a1 hw (by simp [dfS]) hd
  refine Ok.bind (Hy hd 9 (by omega) (by omega)) fun r8 ⟨hd,b0,b1⟩ => ?_
  have e1 : w64 (1 + r8.1) = 1 + r8.1 := Ar (by omega) (by omega)
  have e2 : w64 (1 + r8.1 + 1) = 2 + r8.1 := by rw [Ar (by omega) (by omega)]; omega
  rw [e1,e2]
  refine Ok.bind (Hy hd (2 + r8.1) (by omega) (by omega)) fun r9 ⟨hd,c0,c1⟩ => h2 _ _ _ a1 hw ?_ hd
  simp only
  rw [if_neg (by omega)]
  omega
 refine Ok.bind (Sc hd 2 (by omega)) fun r2 hd => Ok.ite (fun _ => ?_) fun _ => h1 _ (.inl rfl) hd
 exact Ok.bind (Hy hd 6 (by omega) (by omega)) fun r4 ⟨hd,b0,b1⟩ => h1 _ (.inr (by simp only; omega)) hd
theorem Agd {d : Ag} (hd : Cv d) (w : WfT t) : Ok (Kl d t) (fun r => FitsS t r.1 ∧ (∀ x ∈ r.1,Fp x.settings) ∧ Cv r.2) := by
 have hn := w.len2
 unfold Kl
 refine Ok.guard (by omega) ?_
 refine Ok.range (fun pre s => Cv s.1 ∧ s.2.map (·.group) = pre.map (·.id) ∧ ∀ x ∈ s.2,CheckP x.settings ∧ Fp x.settings) ⟨hd,rfl,by simp⟩ ?_ ?_
 ·rintro pre x post ⟨d,L⟩ m he ⟨hd,hg,hc⟩ hm
  simp only at hd hg hc
  have hlen : L.length = pre.length := by
   have := congrArg List.length hg
   simpa using this
  have hpl : pre.length ≤ t.nodes.length := by rw [he]; simp
  have hJ : ∀ (y : Ag × Ao),CheckP y.2 → Fp y.2 → Cv y.1 → Ok (Hu x (d,L) m y) (fun r => FitsS t r.1 ∧ (∀ x ∈ r.1,Fp x.settings) ∧ Cv r.2) := by
   intro y h1 h2 h3
   unfold Hu
   refine Ok.guard (by simp only; omega) (hm _ ⟨h3,by simp [hg],fun z hz => ?_⟩)
   rcases List.mem_append.mp hz with h | h
   ·exact hc z h
   ·simp only [List.mem_singleton] at h
    subst h
    exact ⟨h1,h2⟩
  unfold On
  rw [Ys,Option.bind_some]
  refine Ok.bind (Sc hd 2 (by omega)) fun r16 hd => Ok.ite (fun _ => ?_) fun _ => hJ _ Adm AbA hd
  exact Ok.bind (AfH hd) fun r18 ⟨h1,h2,h3⟩ => hJ _ h1 h2 h3
 ·rintro ⟨d,L⟩ ⟨hd,hg,hc⟩
  unfold Ot
  exact Ok.ret ⟨⟨w,hg,fun x hx => (hc x hx).1⟩,fun x hx => (hc x hx).2,hd⟩
end Go.Dm

/- Plain theory of processor sets, part 7: who shares what with whom. -/
namespace Go.Dm
set_option linter.unusedVariables false
set_option linter.unusedSimpArgs false
variable {t : Ab} {l : List Ac} {on : List Int}
theorem Agx {A B : List Int} (h : Asc A) (ha : A.length ≤ 1000) (hb : B.length ≤ 9223372036854775807) : Zz A B = some (Qv A B) := by
 unfold Zz
 rw [if_pos (by omega),Lj (p := fun x : Int => B.contains x) (f := fun x => x) (r := Rm) (fun k x s n hs => by
  unfold Wm Rl
  rw [Vh _ _ hb,Option.bind_some,if_pos hs]) (fun _ => rfl) (by simp; omega)]
 unfold Rm
 have hm : (A.filter (fun x => B.contains x)).map (fun x => x) = Qv A B := by simp [Qv]
 have hl := List.length_filter_le (fun x => B.contains x) A
 rw [hm,List.nil_append,Xz (l := Qv A B) (by unfold Qv; omega) (Py _ h),Option.bind_some]
theorem AeE {A B : List Int} (h : Asc A) (ha : A.length ≤ 1000) (hb : B.length ≤ 9223372036854775807) : Sr A B = some (Jt A B) := by
 unfold Sr
 rw [if_pos (by omega),Lj (p := fun x : Int => !B.contains x) (f := fun x => x) (r := Tf) (fun k x s n hs => by
  unfold Wl Pj
  rw [Vh _ _ hb,Option.bind_some,if_pos hs]) (fun _ => rfl) (by simp; omega)]
 unfold Tf
 have hm : (A.filter (fun x => !B.contains x)).map (fun x => x) = Jt A B := by simp [Jt]
 have hl := List.length_filter_le (fun x => !B.contains x) A
 rw [hm,List.nil_append,Xz (l := Jt A B) (by unfold Jt; omega) (Py _ h),Option.bind_some]
theorem Aew {A B : List Int} (h : Asc A) (ha : A.length ≤ 1000) (hb : B.length ≤ 9223372036854775807) (hs : ∀ x ∈ A,x ∈ B) : Md A B = some true := by
 unfold Md
 rw [AeE h ha hb,Option.bind_some]
 have : Jt A B = [] := by
  unfold Jt
  rw [List.filter_eq_nil_iff]
  intro x hx
  simp [hs x hx]
 rw [this]
 rfl
theorem Afe (u : UseS t l on) {x : Ah} (hx : x ∈ t.nodes) (ha : Dq t l on x.id = true) :
  Dz t l on x.parent = true ∧ Ea t x.parent = true ∧ (cfg l x.id).partition = 1 ∧ Cu t l on x.id = (cfg l x.id).cpus ∧ x.id ∈ Gx t l on x.parent ∧ x.id ∈ Ay t x.parent ∧ ∀ y ∈ Cu t l on x.id,y ∈ Cu t l on x.parent ∧ y ∉ Jw t l on x.parent := by
 have w := u.w
 rcases w.p.par x hx with ⟨h1,_⟩ | ⟨_,_,⟨y,hy,hyp⟩,_⟩
 ·rw [h1,(Vw w).2] at ha
  simp at ha
 ·have hg : Ea t x.parent = true := hasN_iff.mpr ⟨y,hy,hyp⟩
  have hk : x.id ∈ Ay t x.parent := kids_iff.mpr ⟨x,hx,rfl,rfl⟩
  obtain ⟨e1,e2⟩ := Nk (l := l) (on := on) w hg hk
  rw [e1] at ha
  rw [if_pos ha] at e2
  have hp : x.id ∈ Gx t l on x.parent := by simpa using ha
  obtain ⟨i1,_⟩ := Pr u hg
  obtain ⟨p1,_⟩ := Ph (al := Dz t l on x.parent) u.asc (Ay t x.parent) _ i1
  obtain ⟨q1,q2,q3,q4⟩ := p1 _ hp
  exact ⟨q1,hg,q2,e2,hp,hk,fun z hz => q4 z (by rw [← e2]; exact hz)⟩
theorem all_up (u : UseS t l on) : ∀ x ∈ t.nodes,Dz t l on x.id = true → ∀ k ∈ upT t x.id,Dz t l on k = true ∧ ∀ y ∈ Cu t l on x.id,y ∈ Cu t l on k := by
 have w := u.w
 refine w.induct fun x hx ih ha k hk => ?_
 by_cases h1 : x.id = 1
 ·rw [h1,AdE w] at hk
  simp only [List.mem_singleton] at hk
  subst hk
  rw [← h1]
  exact ⟨ha,fun y hy => hy⟩
 ·have hal : Dq t l on x.id = true := by simpa [Dz,h1] using ha
  obtain ⟨b1,b2,b3,b4,b5,b6,b7⟩ := Afe u hx hal
  obtain ⟨y,hy,hyp⟩ := hasN_iff.mp b2
  rw [w.up hx] at hk
  rcases List.mem_cons.mp hk with rfl | hk
  ·exact ⟨ha,fun y hy => hy⟩
  ·have := ih y hy hyp (by rw [hyp]; exact b1) k (by rw [hyp]; exact hk)
   rw [hyp] at this
   exact ⟨this.1,fun z hz => this.2 z (b7 z hz).1⟩
theorem own_some (u : UseS t l on) : ∀ (n : Nat) (g : Int),(t.next - g).toNat < n → Ea t g = true → Dz t l on g = true → ∀ y ∈ Cu t l on g,∃ x,Ea t x = true ∧ Dz t l on x = true ∧ y ∈ Jw t l on x := by
 intro n
 have w := u.w
 induction n with
 | zero => intro g h; omega
 | succ n ih =>
  intro g hlt hg ha y hy
  obtain ⟨i1,_⟩ := Pr u hg
  obtain ⟨p1,p2,_⟩ := Ph (al := Dz t l on g) u.asc (Ay t g) _ i1
  rcases p2 y hy with h | ⟨c,hc,h⟩
  ·exact ⟨g,hg,ha,h⟩
  ·have hck : c ∈ Ay t g := (Mb (l := l) (al := Dz t l on g) (Ay t g) (Cu t l on g)).2.1 c hc
   obtain ⟨e1,e2,e3⟩ := Ra w hck
   obtain ⟨s1,s2⟩ := Nk (l := l) (on := on) w hg hck
   have hcp : (Gx t l on g).contains c = true := by
    have : c ∈ Gx t l on g := hc
    simpa using this
   rw [if_pos hcp] at s2
   rw [hcp] at s1
   have hgn : g < t.next := by
    obtain ⟨x,hx,rfl⟩ := hasN_iff.mp hg
    exact w.next x hx
   exact ih c (by omega) e2 (by simp [Dz,s1]) y (by rw [s2]; exact h)
theorem own_one (u : UseS t l on) : ∀ (n : Nat) (g : Int),(t.next - g).toNat < n → Ea t g = true → ∀ x x',Bn t g x = true → Bn t g x' = true → Dz t l on x = true → Dz t l on x' = true → ∀ y,y ∈ Jw t l on x → y ∈ Jw t l on x' → x = x' := by
 intro n
 have w := u.w
 induction n with
 | zero => intro g h; omega
 | succ n ih =>
  intro g hlt hg x x' hx hx' ha ha' y hy hy'
  have hgn : g < t.next := by
   obtain ⟨z,hz,rfl⟩ := hasN_iff.mp hg
   exact w.next z hz
  obtain ⟨i1,_⟩ := Pr u hg
  obtain ⟨p1,p2,p3,_⟩ := Ph (al := Dz t l on g) u.asc (Ay t g) _ i1
  have key : ∀ z c,c ∈ Ay t g → Bn t c z = true → Dz t l on z = true → y ∈ Jw t l on z → c ∈ Gx t l on g ∧ y ∈ (cfg l c).cpus := by
   intro z c hc hz haz hyz
   obtain ⟨m,hm,rfl⟩ := Mq (below_iff.mp hz)
   obtain ⟨q1,q2⟩ := all_up u m hm haz c (below_iff.mp hz)
   have hc1 := Abc w hg hc
   have hac : Dq t l on c = true := by simpa [Dz,hc1] using q1
   obtain ⟨s1,s2⟩ := Nk (l := l) (on := on) w hg hc
   rw [hac] at s1
   rw [if_pos s1.symm] at s2
   have hys := q2 y ((Wh u (hasN_iff.mpr ⟨m,hm,rfl⟩)).2.1 y hyz)
   rw [s2] at hys
   exact ⟨by simpa using s1.symm,hys⟩
  rcases (Qw w hg).mp hx with rfl | ⟨c,hc,hcx⟩ <;> rcases (Qw w hg).mp hx' with rfl | ⟨c',hc',hcx'⟩
  ·rfl
  ·obtain ⟨k1,k2⟩ := key x' c' hc' hcx' ha' hy'
   exact absurd hy ((p1 c' k1).2.2.2 y k2).2
  ·obtain ⟨k1,k2⟩ := key x c hc hcx ha hy
   exact absurd hy' ((p1 c k1).2.2.2 y k2).2
  ·obtain ⟨k1,k2⟩ := key x c hc hcx ha hy
   obtain ⟨k3,k4⟩ := key x' c' hc' hcx' ha' hy'
   have := p3 (Aat w g) c k1 c' k3 y k2 k4
   subst this
   obtain ⟨e1,e2,e3⟩ := Ra w hc
   exact ih c (by omega) e2 x x' hcx hcx' ha ha' y hy hy'
theorem Add (u : UseS t l on) {x x' : Int} (hx : Ea t x = true) (hx' : Ea t x' = true) (ha : Dz t l on x = true) (ha' : Dz t l on x' = true) {y : Int} (hy : y ∈ Jw t l on x) (hy' : y ∈ Jw t l on x') : x = x' :=
 own_one u ((t.next - 1).toNat + 1) 1 (by omega) (Rk u.w) x x' (by rw [Wc u.w]; exact hx) (by rw [Wc u.w]; exact hx') ha ha' y hy hy'
end Go.Dm

/- The law CpusetValid, on the model. -/
namespace Go.Dm
set_option linter.unusedVariables false
set_option linter.unusedSimpArgs false
variable {t : Ab} {l : List Ac} {on : List Int}
theorem mem_snocL {α : Type} {x y : α} {L : List α} : x ∈ L ++ [y] ↔ x ∈ L ∨ x = y := by simp
theorem Adw (l0 : List Int) : Ok (Kh l0) (· = true) := by
 have sane : ∀ {f : Bool → Option Bool},f true = some true → Ok (Option.bind Nu f) (· = true) := fun h => Ok.step Afc (Ok.of_eq h rfl)
 unfold Kh Vo
 refine Ok.step rfl ?_
 refine Ok.ite (fun _ => sane rfl) fun c => ?_
 have hl : l0.length ≤ 600 := by
  have : ((l0.length : Nat) : Int) ≤ 600 := by simpa using c
  omega
 refine Ok.step (a := { l := l0,atF := 0 }) rfl ?_
 refine Ok.bind (Tree_ok (dice_roll hl) 8 (by omega) (by omega)) fun r5 ⟨w,hd⟩ => ?_
 have hn := w.len2
 refine Ok.bind (Agd hd w) fun r6 ⟨f,hs,hd⟩ => ?_
 refine Ok.bind (Online_ok hd (n := 6) (by omega) (by omega)) fun r7 ⟨ho,hpos,hd⟩ => ?_
 have h16 : okSet 16 r7.1 := Aaq ho (by omega)
 have hol := ho.len (by omega)
 have u : UseS r5.1 r6.1 r7.1 := ⟨f,hpos,h16⟩
 have hal := Aav (t := r5.1) (l := r6.1) (on := r7.1)
 have hL := f.len
 obtain ⟨a1,a2,a3,a4⟩ := Wh u (Rk w)
 rw [Abz u hs,Option.bind_some,Abt u hs,Option.bind_some,if_pos (Rk w)]
 refine Ok.guard (by omega) (Ok.guard (by omega) ?_)
 have hroot : Dz r5.1 r6.1 r7.1 1 = true := rfl
 have hmem : ∀ x ∈ Ih r5.1 r6.1 r7.1,Ea r5.1 x = true ∧ x ≠ 1 ∧ Dz r5.1 r6.1 r7.1 x = true := fun x hx => by
  obtain ⟨h1,h2,h3⟩ := aloneL_mem.mp hx
  exact ⟨h1,h2,by simp [Dz,h3]⟩
 refine Ok.range (fun pre s => s.length ≤ 16 * (pre.length + 1) ∧ s.Nodup ∧ ∀ y,y ∈ s ↔ y ∈ Jw r5.1 r6.1 r7.1 1 ∨ ∃ x ∈ pre,y ∈ Jw r5.1 r6.1 r7.1 x) ⟨by simp only [List.length_nil]; omega,Nj a1,fun y => by simp⟩ ?_ ?_
 ·rintro pre x post s n he ⟨i1,i2,i3⟩ hm
  have hxL : x ∈ Ih r5.1 r6.1 r7.1 := by rw [he]; simp
  have hpl : pre.length < (Ih r5.1 r6.1 r7.1).length := by rw [he]; simp
  obtain ⟨b1,b2,b3⟩ := hmem x hxL
  obtain ⟨_,_,hax⟩ := aloneL_mem.mp hxL
  obtain ⟨m,hmn,rfl⟩ := hasN_iff.mp b1
  obtain ⟨p1,p2,p3,p4,p5,p6,p7⟩ := Afe u hmn hax
  obtain ⟨o1,o2,o3,o4⟩ := Wh u b1
  have hck := (f.cfg m.id).small
  have hpre : ∀ z ∈ pre,Ea r5.1 z = true ∧ z ≠ 1 ∧ Dz r5.1 r6.1 r7.1 z = true := fun z hz => hmem z (by rw [he]; simp [hz])
  have hxpre : m.id ∉ pre := fun h => by
   have hnd := Nj (Vr (l := r6.1) (on := r7.1) w)
   rw [he,List.nodup_append] at hnd
   exact hnd.2.2 m.id h m.id (by simp) rfl
  have hJ : Ok (Dw r5 r6 r7 m.id s n false) (· = true) := by
   unfold Dw
   rw [if_neg (by simp),Abt u hs,Option.bind_some,if_pos b1]
   refine Ok.guard (by omega) (hm _ ⟨?_,?_,fun y => ?_⟩)
   ·simp only [List.length_append,List.length_singleton]
    omega
   ·rw [List.nodup_append]
    refine ⟨i2,Nj o1,fun a ha b hb hab => ?_⟩
    subst hab
    rcases (i3 a).mp ha with h | ⟨z,hz,h⟩
    ·exact b2 (Add u b1 (Rk w) b3 hroot hb h)
    ·obtain ⟨z1,z2,z3⟩ := hpre z hz
     have := Add u b1 z1 b3 z3 hb h
     exact hxpre (this ▸ hz)
   ·rw [List.mem_append,i3 y]
    constructor
    ·rintro ((h | ⟨z,hz,h⟩) | h)
     ·exact .inl h
     ·exact .inr ⟨z,by simp [hz],h⟩
     ·exact .inr ⟨m.id,by simp,h⟩
    ·rintro (h | ⟨z,hz,h⟩)
     ·exact .inl (.inl h)
     ·rcases mem_snocL.mp hz with hz | rfl
      ·exact .inl (.inr ⟨z,hz,h⟩)
      ·exact .inr h
  have hW : Md (Jw r5.1 r6.1 r7.1 m.id) (cfg r6.1 m.id).cpus = some true := Aew o1 (by omega) (by omega) fun y hy => by
   rw [← p4]
   exact o2 y hy
  have hpart : ((cfg r6.1 m.id).partition != 1) = false := by simp [p3]
  unfold Oy
  rw [find5 w,Option.bind_some,Abl (by omega) hs,Option.bind_some]
  simp only [b1,Bool.not_true,nodeN_of w hmn]
  rw [if_neg (by simp)]
  refine Ok.ite (fun c1 => ?_) fun c1 => ?_
  ·have c1 : m.parent ≠ 1 := by simpa using c1
   have hin : m.parent ∈ Ih r5.1 r6.1 r7.1 := aloneL_mem.mpr ⟨p2,c1,by simpa [Dz,c1] using p1⟩
   rw [Vh _ _ (by omega),Option.bind_some]
   have : (Ih r5.1 r6.1 r7.1).contains m.parent = true := by simpa using hin
   rw [this,if_neg (by simp),hpart,if_neg (by simp),Abt u hs,Option.bind_some,if_pos b1,hW,Option.bind_some]
   exact hJ
  ·rw [hpart,if_neg (by simp),Abt u hs,Option.bind_some,if_pos b1,hW,Option.bind_some]
   exact hJ
 ·rintro s ⟨i1,i2,i3⟩
  have hsum : ∀ y,y ∈ s ↔ y ∈ r7.1 := by
   intro y
   rw [i3 y]
   constructor
   ·rintro (h | ⟨x,hx,h⟩)
    ·have := (Pr u (Rk w)).2.1 y (a2 y h)
     exact this
    ·obtain ⟨b1,_,_⟩ := hmem x hx
     exact (Pr u b1).2.1 y ((Wh u b1).2.1 y h)
   ·intro h
    have hr := (Vw (l := r6.1) (on := r7.1) w).1
    obtain ⟨x,x1,x2,x3⟩ := own_some u ((r5.1.next - 1).toNat + 1) 1 (by omega) (Rk w) hroot y (by rw [hr]; exact h)
    by_cases hx1 : x = 1
    ·subst hx1
     exact .inl x3
    ·exact .inr ⟨x,aloneL_mem.mpr ⟨x1,hx1,by simpa [Dz,hx1] using x2⟩,x3⟩
  have hsl : s.length ≤ 2000 := by omega
  obtain ⟨q,q1,q2,q3,_⟩ := Zu (l := s) (by omega)
  have hq : q = r7.1 := Aab q2 ho.1 fun y => (q3 y).trans (hsum y)
  have hlen : s.length = r7.1.length := by
   have e1 := Pq i2 fun y hy => (hsum y).mp hy
   have e2 := Pq (Nj ho.1) fun y hy => (hsum y).mpr hy
   omega
  unfold Ou Hs
  rw [q1,Option.bind_some,hq,Ady _ (by omega),Option.bind_some,if_pos rfl,if_pos (by rw [hlen]; simp)]
  exact sane rfl
theorem AcR (l : List Int) (_ : ∀ n ∈ l,-9223372036854775808 ≤ n ∧ n ≤ 9223372036854775807) : Kh l = some true := (Adw l).eq
end Go.Dm

/- Models of Go types and functions, printed by a program. -/
namespace Go.Dm
set_option linter.unusedVariables false

end Go.Dm


/- Types of the program. -/
namespace Go.Dm
open Go.Proofs
set_option linter.unusedVariables false
def Tt : Ty := [(3,⟨.int .i64,1,8,[.int .i64 0],false⟩),
  (4,⟨.bool,1,1,[.bool false],false⟩),
  (5,⟨.int .u8,1,1,[.int .u8 0],false⟩),
  (9,⟨.str,1,16,[.string ByteArray.empty],false⟩),
  (22,⟨.slice 3,1,24,[.slice none 0 0],false⟩),
  (27,⟨.slice 37,1,24,[.slice none 0 0],false⟩),
  (29,⟨.struct [(0,27),(1,3)],2,32,[.slice none 0 0,.int .i64 0],false⟩),
  (31,⟨.slice 73,1,24,[.slice none 0 0],false⟩),
  (37,⟨.struct [(0,3),(1,3),(2,9),(3,3),(4,3),(5,3)],6,56,[.int .i64 0,.int .i64 0,.string ByteArray.empty,.int .i64 0,.int .i64 0,.int .i64 0],false⟩),
  (41,⟨.struct [(0,3),(1,3),(2,3),(3,3),(4,3),(5,4)],6,48,[.int .i64 0,.int .i64 0,.int .i64 0,.int .i64 0,.int .i64 0,.bool false],false⟩),
  (42,⟨.slice 187,1,24,[.slice none 0 0],false⟩),
  (44,⟨.struct [(0,3),(1,3),(2,3),(3,3),(4,3),(5,3),(6,3),(7,22),(8,22),(9,3),(10,41),(16,42)],17,184,[.int .i64 0,.int .i64 0,.int .i64 0,.int .i64 0,.int .i64 0,.int .i64 0,.int .i64 0,.slice none 0 0,.slice none 0 0,.int .i64 0,.int .i64 0,.int .i64 0,.int .i64 0,.int .i64 0,.int .i64 0,.bool false,.slice none 0 0],false⟩),
  (62,⟨.func,1,8,[.nilFunc],false⟩),
  (67,⟨.int .i64,1,8,[.int .i64 0],false⟩),
  (73,⟨.struct [(0,3),(1,44)],18,192,[.int .i64 0,.int .i64 0,.int .i64 0,.int .i64 0,.int .i64 0,.int .i64 0,.int .i64 0,.int .i64 0,.slice none 0 0,.slice none 0 0,.int .i64 0,.int .i64 0,.int .i64 0,.int .i64 0,.int .i64 0,.int .i64 0,.bool false,.slice none 0 0],false⟩),
  (84,⟨.struct [(0,22),(1,3)],2,32,[.slice none 0 0,.int .i64 0],false⟩),
  (88,⟨.map 3 22,1,8,[(.map none)],false⟩),
  (89,⟨.map 3 4,1,8,[(.map none)],false⟩),
  (91,⟨.struct [(0,29),(2,31),(3,88),(4,89)],5,72,[.slice none 0 0,.int .i64 0,.slice none 0 0,(.map none),(.map none)],false⟩),
  (134,⟨.slice 9,1,24,[.slice none 0 0],false⟩),
  (140,⟨.int .u64,1,8,[.int .u64 0],false⟩),
  (168,⟨.int .i64,1,8,[.int .i64 0],false⟩),
  (177,⟨.int .u64,1,8,[.int .u64 0],false⟩),
  (184,⟨.map 3 3,1,8,[(.map none)],false⟩),
  (187,⟨.struct [(0,3),(1,3),(2,3),(3,3),(4,3),(5,3),(6,3)],7,56,[.int .i64 0,.int .i64 0,.int .i64 0,.int .i64 0,.int .i64 0,.int .i64 0,.int .i64 0],false⟩),
  (192,⟨.int .u64,1,8,[.int .u64 0],false⟩),
  (206,⟨.slice 5,1,24,[.slice none 0 0],false⟩)]
theorem Tgood : Lc Tryz.prog Tt := tyGood_of ⟨⟨⟨by kernel_rfl,by kernel_rfl⟩,trivial⟩,⟨⟨by kernel_rfl,by kernel_rfl⟩,trivial⟩,⟨⟨by kernel_rfl,by kernel_rfl⟩,trivial⟩,⟨⟨by kernel_rfl,by kernel_rfl⟩,trivial⟩,⟨⟨by kernel_rfl,by kernel_rfl⟩,trivial⟩,⟨⟨by kernel_rfl,by kernel_rfl⟩,trivial⟩,⟨⟨by kernel_rfl,by kernel_rfl⟩,trivial⟩,⟨⟨by kernel_rfl,by kernel_rfl⟩,trivial⟩,⟨⟨by kernel_rfl,by kernel_rfl⟩,trivial⟩,⟨⟨by kernel_rfl,by kernel_rfl⟩,trivial⟩,⟨⟨by kernel_rfl,by kernel_rfl⟩,trivial⟩,⟨⟨by kernel_rfl,by kernel_rfl⟩,trivial⟩,⟨⟨by kernel_rfl,by kernel_rfl⟩,trivial⟩,⟨⟨by kernel_rfl,by kernel_rfl⟩,trivial⟩,⟨⟨by kernel_rfl,by kernel_rfl⟩,trivial⟩,⟨⟨by kernel_rfl,by kernel_rfl⟩,trivial⟩,⟨⟨by kernel_rfl,by kernel_rfl⟩,trivial⟩,⟨⟨by kernel_rfl,by kernel_rfl⟩,trivial⟩,⟨⟨by kernel_rfl,by kernel_rfl⟩,trivial⟩,⟨⟨by kernel_rfl,by kernel_rfl⟩,trivial⟩,⟨⟨by kernel_rfl,by kernel_rfl⟩,trivial⟩,⟨⟨by kernel_rfl,by kernel_rfl⟩,trivial⟩,⟨⟨by kernel_rfl,by kernel_rfl⟩,trivial⟩,⟨⟨by kernel_rfl,by kernel_rfl⟩,trivial⟩,⟨⟨by kernel_rfl,by kernel_rfl⟩,trivial⟩,⟨⟨by kernel_rfl,by kernel_rfl⟩,trivial⟩,⟨⟨by kernel_rfl,by kernel_rfl⟩,trivial⟩,trivial⟩ (by kernel_rfl) (by kernel_rfl)
theorem mixed : Tryz.prog.follows .mixedOrders = true := by kernel_rfl
theorem RK {cx : Cx} {σ : St} {Q : Exit → St → Prop} {nt : Nat} (hnt : cx.nt = nt) {ops : Array Oper} {id : Nat} {draw : Bool} {r : List Code} (xs : List Orc) (sl : List (Nat × MV)) (ob : List (Nat × Obj))
    {q : Prop} (hq : q) (hQ : DW Tryz.prog cx r (Ae sl ob) Q) (h : Uf Tryz.prog Tt nt ops xs (Cy sl) (Cy ob) draw σ = some ((sl,ob),q) := by kernel_rfl) : DW Tryz.prog cx (.region id ops draw :: r) σ Q := DW.rk Tgood mixed hnt xs sl ob hq h hQ
theorem RD {cx : Cx} {Q : Exit → St → Prop} {nt : Nat} (hnt : cx.nt = nt) {ops : Array Oper} {id : Nat} {draw : Bool} {r : List Code} {sl0 : List (Nat × MV)} {ob0 : List (Nat × Obj)} (xs : List Orc) (ds : List Nat) (us : List (Nat × MV)) (dk : List Nat) (uo : List (Nat × Obj))
    {q : Prop} (hq : q) (hQ : DW Tryz.prog cx r (Ae (up ds us sl0) (up dk uo ob0)) Q) (h : Uf Tryz.prog Tt nt ops xs (Cy (up ds us sl0)) (Cy (up dk uo ob0)) draw (Ae sl0 ob0) = some ((up ds us sl0,up dk uo ob0),q) := by kernel_rfl) : DW Tryz.prog cx (.region id ops draw :: r) (Ae sl0 ob0) Q := DW.rd Tgood mixed hnt xs ds us dk uo hq hQ h
theorem SO {f : FuncId} {fn : Func} {c : Code} (hf : Tryz.prog.funcs[f]? = some fn) (hb : fn.body = some c)
    {args : List MV} {outs : List Body} {res : MV} {outs' news : List Body} (hlen : outs'.length = outs.length)
    (sl : List (Nat × MV)) (ob : List (Nat × Obj)) (hd : ∀ cx : Cx,cx.nt = fn.ntmps → DW Tryz.prog cx [c] (Ae sl ob) (finQ Tt fn.results.toList outs.length res (outs' ++ news)))
    (hname : fn.name ≠ "runtime.NumGoroutine" := by decide) (hle : Nat.ble args.length fn.ntmps = true := by rfl) (hm : Nat.ble outs.length 1000 = true := by rfl)
    (h1 : Ww (upN args.length 0) (upN outs.length 0) ⟨fun t => (args[t]?).getD .any,Bs outs⟩ = sl := by kernel_rfl)
    (h2 : Tm (upN outs.length 0) ⟨fun t => (args[t]?).getD .any,Bs outs⟩ = ob := by kernel_rfl) :
    Spec Tryz.prog f args outs res outs' news := spec_of Tgood hf hname hb hlen (Nat.le_of_ble_eq_true hle) (Nat.le_of_ble_eq_true hm) h1 h2 fun cx hnt => DW.start (hd cx hnt)
theorem RN {cx : Cx} {σ : St} {Q : Exit → St → Prop} {nt : Nat} (hnt : cx.nt = nt) {ops : Array Oper} {id : Nat} {draw : Bool} {r : List Code} (xs : List Orc) (sl : List (Nat × MV)) (ob : List (Nat × Obj))
    (ps : List (Nat × MV)) (qs : List (Nat × Body)) {q : Prop} (hq : q) (h : Uf Tryz.prog Tt nt ops xs (Cy sl) (Cy ob) draw σ = some ((Pm ps sl,Od qs ob),q)) (hs : SP sl ps) (ho : OP ob qs)
    (hQ : DW Tryz.prog cx r (Ae sl ob) Q) : DW Tryz.prog cx (.region id ops draw :: r) σ Q := DW.rn Tgood mixed hnt xs sl ob ps qs hq h hs ho hQ
theorem RT {cx : Cx} {σ : St} {nt : Nat} (hnt : cx.nt = nt) {ops : Array Oper} {draw : Bool} {sl : List (Nat × MV)} {ob : List (Nat × Obj)} (xs : List Orc)
    (ps : List (Nat × MV)) {q : Prop} (hq : q) (h : Uf Tryz.prog Tt nt ops xs (Cy sl) (Cy ob) draw σ = some ((Pm ps sl,ob),q)) (hs : SP sl ps) : RegTo Tryz.prog cx ops draw σ sl ob := RegTo.rn Tgood mixed hnt xs ps hq h hs
end Go.Dm


/- Go functions compute their models, printed by a program. -/
namespace Go.Dm
open Go.Proofs
set_option linter.unusedVariables false
theorem AdB (p0 : List Int) (RES : Bool) (hm : Vo p0 = some RES) : Spec Tryz.prog 8 [.p (slI p0)] [] (pB RES) [] [] := by
 unfold Vo at hm
 refine SO Tryz.func8 rfl rfl [(0,.p (slI p0))] [] ?_
 intro cx hnt
 refine Sq (RK hnt (.no :: []) [(0,.p (slI p0))] [] tv ?_)
 refine Sq (RK hnt (nn 4 []) [(2,pB (decide (((p0.length : Nat) : Int) ≤ 600)))] [] tv ?_)
 obtain rfl := sj hm
 exact DW.ret (Am [] [] (pB (decide (((p0.length : Nat) : Int) ≤ 600))))
abbrev o2 (ks : List Nat) (b : Bool) (RES : Bool) (sm : List Nat := []) : Orc := .call 8 ks b (pB RES) [] [] sm

abbrev c4e1 := ({ id := 1,parent := 0,name := ByteArray.empty,control := 0,kind := 0,owner := 0 } : Ah)
theorem Abx (RES : Ab) (hm : Wy = some RES) : Spec Tryz.prog 44 [] [] (.agg [ow 0 RES.nodes.length,pI RES.next]) [] [Cs RES.nodes] := by
 unfold Wy at hm
 refine SO Tryz.func44 rfl rfl [] [] ?_
 intro cx hnt
 refine Sq (RK hnt (.no :: []) [(0,rr 1000)] [(1000,bx [.p (.sl .nil 0 0 (fun _ => [])),pI 0])] tv ?_)
 refine Sq (RN hnt (nn 4 []) [(0,rr 1000)] [(1000,bx [ow 1016 [(c4e1)].length,pI 2]),(1016,ob0 (Cs [(c4e1)]))] [] [(1000,.box [ow 1016 1,pI 2]),(1016,.row 6 1 (cut 6 [vi 1,vi 0,vs ByteArray.empty,vi 0,vi 0,vi 0]))] tv (by kernel_rfl) .nil (.cons rfl (.box (.cons (MLe.ownLen (enc := Ca) (d := Dk) (f := (cut 6 [vi 1,vi 0,vs ByteArray.empty,vi 0,vi 0,vi 0])) (RowIs.lit (enc := Ca) (d := Dk) (n := 1) (f := (cut 6 [vi 1,vi 0,vs ByteArray.empty,vi 0,vi 0,vi 0])) [(c4e1)] rfl (fun | 0,_ => rfl | n + 1,h => absurd h (by omega)))) (.cons .rfl .nil))) (.cons rfl (BLe.typed (RowIs.lit (enc := Ca) (d := Dk) (n := 1) (f := (cut 6 [vi 1,vi 0,vs ByteArray.empty,vi 0,vi 0,vi 0])) [(c4e1)] rfl (fun | 0,_ => rfl | n + 1,h => absurd h (by omega)))) .nil)) ?_)
 obtain rfl := sj hm
 exact DW.ret (Am [Cs [(c4e1)]] [1016] (.agg [ow 0 [(c4e1)].length,pI 2]))
abbrev o4 (ks : List Nat) (b : Bool) (RES : Ab) (sm : List Nat := []) : Orc := .call 44 ks b (.agg [ow 0 RES.nodes.length,pI RES.next]) [] [Cs RES.nodes] sm

abbrev c8e1 (p0 : ByteArray) (k1 : Int) : Nat × MV := (57,pB (!((((Bi p0 (Int.toNat k1)) : Nat) : Int) == 45)))
theorem Zl (p0 : ByteArray) (RES : Bool) (hm : Qf p0 = some RES) : Spec Tryz.prog 97 [pS p0] [] (pB RES) [] [] := by
 unfold Qf at hm
 refine SO Tryz.func97 rfl rfl [(0,pS p0)] [] ?_
 intro cx hnt
 refine Sq (RK hnt (.no :: []) [(0,pS p0)] [] tv ?_)
 refine Sq (Sq ?_)
 refine Jn (ι := Bool) (fun (y1 : Bool) => Ae [(0,pS p0),(17,pB y1)] []) (fun y1 => (Mz p0) y1 = some RES) ?_ ?_
 ·intro y1 hm
  unfold Mz at hm
  refine Aq hm ?_ ?_
  ·intro h4 hm
   refine Sq (RK hnt (.no :: []) [(2,pB false)] [] tv ?_)
   obtain rfl := sj hm
   exact DW.ret (Am [] [] (pB false))
  ·intro h4 hm
   refine Sk ?_
   refine Sq (Sq (RK hnt (.no :: []) [(0,pS p0),(3,pI 0)] [] tv ?_))
   refine Bk ?_
   obtain ⟨hc1,hm⟩ := go1 hm
   refine DW.forO (fun (k1 : Int) (s1 : Unit) => Ae [(0,pS p0),(3,pI k1)] []) (lo := 0) (hi := ((p0.size : Nat) : Int)) hm .refl ?_
   intro k1 s1 n1 hk1 hs1 he1
   refine Sq (Sq (RD hnt (nn 4 []) [] [(21,pB (decide (k1 < ((p0.size : Nat) : Int))))] [] [] tv ?_))
   refine Ej (decide (k1 < ((p0.size : Nat) : Int))) ?_ ?_
   ·intro h55
    have hlt1 : k1 < ((p0.size : Nat) : Int) := by have := of_decide_eq_true h55; omega
    have hm := hs1 hlt1
    unfold Xj at hm
    refine Sk ?_
    refine Sq (Bk ?_)
    obtain ⟨g56,hm⟩ := go1 hm
    refine Sq (RD hnt (nn 4 []) [21] [(4,.p (vk .u8 (((Bi p0 (Int.toNat k1)) : Nat) : Int)))] [] [] (an g56.1 (an g56.2 tv)) ?_)
    refine Sq (DW.regJ (sl2 := [(0,pS p0),(3,pI k1),(57,pB (!((((((decide ((((Bi p0 (Int.toNat k1)) : Nat) : Int) ≥ 97)) && (decide ((((Bi p0 (Int.toNat k1)) : Nat) : Int) ≤ 122))) || ((decide ((((Bi p0 (Int.toNat k1)) : Nat) : Int) ≥ 65)) && (decide ((((Bi p0 (Int.toNat k1)) : Nat) : Int) ≤ 90)))) || ((decide ((((Bi p0 (Int.toNat k1)) : Nat) : Int) ≥ 48)) && (decide ((((Bi p0 (Int.toNat k1)) : Nat) : Int) ≤ 57)))) || ((((Bi p0 (Int.toNat k1)) : Nat) : Int) == 95)) || ((((Bi p0 (Int.toNat k1)) : Nat) : Int) == 45))))]) (ob2 := []) ?_ ?_)
    ·rcases bt (decide ((((Bi p0 (Int.toNat k1)) : Nat) : Int) ≥ 97)) with h57 | h57
     ·rcases bt (decide ((((Bi p0 (Int.toNat k1)) : Nat) : Int) ≤ 122)) with h58 | h58
      ·exact RT hnt (nn 5 (pT :: .no :: sk 6 (pT :: .no :: sk 6 (pT :: .no :: sk 2 (pT :: .no :: sk 2 (pT :: .no :: [])))))) [(57,pB false)] (an3 h57 (an5 h58 (an5 tt (an6 tt tv)))) (by kernel_rfl) (.cons rfl (.of_eq (by rw [h57,h58]; try rfl)) .nil)
      ·rcases bt (decide ((((Bi p0 (Int.toNat k1)) : Nat) : Int) ≥ 65)) with h59 | h59
       ·rcases bt (decide ((((Bi p0 (Int.toNat k1)) : Nat) : Int) ≤ 90)) with h60 | h60
        ·exact RT hnt (nn 5 (pT :: nn 6 (pT :: pF :: .no :: sk 6 (pT :: .no :: sk 2 (pT :: .no :: sk 2 (pT :: .no :: [])))))) [(57,pB false)] (an3 h57 (an3 h58 (an2 h59 (an h58 (an h59 (an h58 (an5 h60 (an6 tt tv)))))))) (by kernel_rfl) (.cons rfl (.of_eq (by rw [h57,h58,h59,h60]; try rfl)) .nil)
        ·rcases bt (decide ((((Bi p0 (Int.toNat k1)) : Nat) : Int) ≥ 48)) with h61 | h61
         ·rcases bt (decide ((((Bi p0 (Int.toNat k1)) : Nat) : Int) ≤ 57)) with h62 | h62
          ·exact RT hnt (nn 5 (pT :: nn 6 (pT :: pF :: nn 6 (pT :: pF :: .no :: sk 2 (pT :: .no :: sk 2 (pT :: .no :: [])))))) [(57,pB false)] (an3 h57 (an3 h58 (an2 h59 (an h58 (an h59 (an h58 (an3 h60 (an2 h61 (an h60 (an h61 (an h60 (an3 h62 (an3 tt tv))))))))))))) (by kernel_rfl) (.cons rfl (.of_eq (by rw [h57,h58,h59,h60,h61,h62]; try rfl)) .nil)
          ·rcases bt ((((Bi p0 (Int.toNat k1)) : Nat) : Int) == 95) with h63 | h63
           ·exact RT hnt (nn 5 (pT :: nn 6 (pT :: pF :: nn 6 (pT :: pF :: nn 3 (pF :: .no :: sk 2 (pT :: .no :: [])))))) [(57,pB false)] (an3 h57 (an3 h58 (an2 h59 (an h58 (an h59 (an h58 (an3 h60 (an2 h61 (an h60 (an h61 (an h60 (an3 h62 (an3 h63 tv))))))))))))) (by kernel_rfl) (.cons rfl (.of_eq (by rw [h57,h58,h59,h60,h61,h62,h63]; try rfl)) .nil)
           ·exact RT hnt (nn 5 (pT :: nn 6 (pT :: pF :: nn 6 (pT :: pF :: nn 3 (pF :: nn 3 (pF :: .no :: [])))))) [(c8e1 p0 k1)] (an3 h57 (an3 h58 (an2 h59 (an h58 (an h59 (an h58 (an3 h60 (an2 h61 (an h60 (an h61 (an h60 (an3 h62 (an3 h63 tv))))))))))))) (by kernel_rfl) (.cons rfl (.of_eq (by rw [h57,h58,h59,h60,h61,h62,h63]; try rfl)) .nil)
         ·rcases bt ((((Bi p0 (Int.toNat k1)) : Nat) : Int) == 95) with h64 | h64
          ·exact RT hnt (nn 5 (pT :: nn 6 (pT :: pF :: nn 4 (sk 2 (pF :: pF :: nn 3 (pF :: .no :: sk 2 (pT :: .no :: []))))))) [(57,pB false)] (an3 h57 (an3 h58 (an2 h59 (an h58 (an h59 (an h58 (an3 h60 (an2 h61 (an h60 (an h61 (an h60 (an3 ff (an3 h64 tv))))))))))))) (by kernel_rfl) (.cons rfl (.of_eq (by rw [h57,h58,h59,h60,h61,h64]; try rfl)) .nil)
          ·exact RT hnt (nn 5 (pT :: nn 6 (pT :: pF :: nn 4 (sk 2 (pF :: pF :: nn 3 (pF :: nn 3 (pF :: .no :: []))))))) [(c8e1 p0 k1)] (an3 h57 (an3 h58 (an2 h59 (an h58 (an h59 (an h58 (an3 h60 (an2 h61 (an h60 (an h61 (an h60 (an3 ff (an3 h64 tv))))))))))))) (by kernel_rfl) (.cons rfl (.of_eq (by rw [h57,h58,h59,h60,h61,h64]; try rfl)) .nil)
       ·rcases bt (decide ((((Bi p0 (Int.toNat k1)) : Nat) : Int) ≥ 48)) with h65 | h65
        ·rcases bt (decide ((((Bi p0 (Int.toNat k1)) : Nat) : Int) ≤ 57)) with h66 | h66
         ·exact RT hnt (nn 5 (pT :: nn 4 (sk 2 (pF :: pF :: nn 6 (pT :: pF :: .no :: sk 2 (pT :: .no :: sk 2 (pT :: .no :: []))))))) [(57,pB false)] (an3 h57 (an3 h58 (an2 h59 (an h58 (an h59 (an h58 (an3 ff (an2 h65 (an ff (an h65 (an ff (an3 h66 (an3 tt tv))))))))))))) (by kernel_rfl) (.cons rfl (.of_eq (by rw [h57,h58,h59,h65,h66]; try rfl)) .nil)
         ·rcases bt ((((Bi p0 (Int.toNat k1)) : Nat) : Int) == 95) with h67 | h67
          ·exact RT hnt (nn 5 (pT :: nn 4 (sk 2 (pF :: pF :: nn 6 (pT :: pF :: nn 3 (pF :: .no :: sk 2 (pT :: .no :: []))))))) [(57,pB false)] (an3 h57 (an3 h58 (an2 h59 (an h58 (an h59 (an h58 (an3 ff (an2 h65 (an ff (an h65 (an ff (an3 h66 (an3 h67 tv))))))))))))) (by kernel_rfl) (.cons rfl (.of_eq (by rw [h57,h58,h59,h65,h66,h67]; try rfl)) .nil)
          ·exact RT hnt (nn 5 (pT :: nn 4 (sk 2 (pF :: pF :: nn 6 (pT :: pF :: nn 3 (pF :: nn 3 (pF :: .no :: []))))))) [(c8e1 p0 k1)] (an3 h57 (an3 h58 (an2 h59 (an h58 (an h59 (an h58 (an3 ff (an2 h65 (an ff (an h65 (an ff (an3 h66 (an3 h67 tv))))))))))))) (by kernel_rfl) (.cons rfl (.of_eq (by rw [h57,h58,h59,h65,h66,h67]; try rfl)) .nil)
        ·rcases bt ((((Bi p0 (Int.toNat k1)) : Nat) : Int) == 95) with h68 | h68
         ·exact RT hnt (nn 5 (pT :: nn 4 (sk 2 (pF :: pF :: nn 4 (sk 2 (pF :: pF :: nn 3 (pF :: .no :: sk 2 (pT :: .no :: [])))))))) [(57,pB false)] (an3 h57 (an3 h58 (an2 h59 (an h58 (an h59 (an h58 (an3 ff (an2 h65 (an ff (an h65 (an4 ff (an3 h68 tv)))))))))))) (by kernel_rfl) (.cons rfl (.of_eq (by rw [h57,h58,h59,h65,h68]; try rfl)) .nil)
         ·exact RT hnt (nn 5 (pT :: nn 4 (sk 2 (pF :: pF :: nn 4 (sk 2 (pF :: pF :: nn 3 (pF :: nn 3 (pF :: .no :: [])))))))) [(c8e1 p0 k1)] (an3 h57 (an3 h58 (an2 h59 (an h58 (an h59 (an h58 (an3 ff (an2 h65 (an ff (an h65 (an4 ff (an3 h68 tv)))))))))))) (by kernel_rfl) (.cons rfl (.of_eq (by rw [h57,h58,h59,h65,h68]; try rfl)) .nil)
     ·rcases bt (decide ((((Bi p0 (Int.toNat k1)) : Nat) : Int) ≥ 65)) with h69 | h69
      ·rcases bt (decide ((((Bi p0 (Int.toNat k1)) : Nat) : Int) ≤ 90)) with h70 | h70
       ·exact RT hnt (nn 3 (sk 2 (pF :: nn 6 (pT :: pF :: .no :: sk 6 (pT :: .no :: sk 2 (pT :: .no :: sk 2 (pT :: .no :: []))))))) [(57,pB false)] (an3 h57 (an3 ff (an2 h69 (an ff (an h69 (an ff (an5 h70 (an6 tt tv)))))))) (by kernel_rfl) (.cons rfl (.of_eq (by rw [h57,h69,h70]; try rfl)) .nil)
       ·rcases bt (decide ((((Bi p0 (Int.toNat k1)) : Nat) : Int) ≥ 48)) with h71 | h71
        ·rcases bt (decide ((((Bi p0 (Int.toNat k1)) : Nat) : Int) ≤ 57)) with h72 | h72
         ·exact RT hnt (nn 3 (sk 2 (pF :: nn 6 (pT :: pF :: nn 6 (pT :: pF :: .no :: sk 2 (pT :: .no :: sk 2 (pT :: .no :: []))))))) [(57,pB false)] (an3 h57 (an3 ff (an2 h69 (an ff (an h69 (an ff (an3 h70 (an2 h71 (an h70 (an h71 (an h70 (an3 h72 (an3 tt tv))))))))))))) (by kernel_rfl) (.cons rfl (.of_eq (by rw [h57,h69,h70,h71,h72]; try rfl)) .nil)
         ·rcases bt ((((Bi p0 (Int.toNat k1)) : Nat) : Int) == 95) with h73 | h73
          ·exact RT hnt (nn 3 (sk 2 (pF :: nn 6 (pT :: pF :: nn 6 (pT :: pF :: nn 3 (pF :: .no :: sk 2 (pT :: .no :: []))))))) [(57,pB false)] (an3 h57 (an3 ff (an2 h69 (an ff (an h69 (an ff (an3 h70 (an2 h71 (an h70 (an h71 (an h70 (an3 h72 (an3 h73 tv))))))))))))) (by kernel_rfl) (.cons rfl (.of_eq (by rw [h57,h69,h70,h71,h72,h73]; try rfl)) .nil)
          ·exact RT hnt (nn 3 (sk 2 (pF :: nn 6 (pT :: pF :: nn 6 (pT :: pF :: nn 3 (pF :: nn 3 (pF :: .no :: []))))))) [(c8e1 p0 k1)] (an3 h57 (an3 ff (an2 h69 (an ff (an h69 (an ff (an3 h70 (an2 h71 (an h70 (an h71 (an h70 (an3 h72 (an3 h73 tv))))))))))))) (by kernel_rfl) (.cons rfl (.of_eq (by rw [h57,h69,h70,h71,h72,h73]; try rfl)) .nil)
        ·rcases bt ((((Bi p0 (Int.toNat k1)) : Nat) : Int) == 95) with h74 | h74
         ·exact RT hnt (nn 3 (sk 2 (pF :: nn 6 (pT :: pF :: nn 4 (sk 2 (pF :: pF :: nn 3 (pF :: .no :: sk 2 (pT :: .no :: [])))))))) [(57,pB false)] (an3 h57 (an3 ff (an2 h69 (an ff (an h69 (an ff (an3 h70 (an2 h71 (an h70 (an h71 (an h70 (an3 ff (an3 h74 tv))))))))))))) (by kernel_rfl) (.cons rfl (.of_eq (by rw [h57,h69,h70,h71,h74]; try rfl)) .nil)
         ·exact RT hnt (nn 3 (sk 2 (pF :: nn 6 (pT :: pF :: nn 4 (sk 2 (pF :: pF :: nn 3 (pF :: nn 3 (pF :: .no :: [])))))))) [(c8e1 p0 k1)] (an3 h57 (an3 ff (an2 h69 (an ff (an h69 (an ff (an3 h70 (an2 h71 (an h70 (an h71 (an h70 (an3 ff (an3 h74 tv))))))))))))) (by kernel_rfl) (.cons rfl (.of_eq (by rw [h57,h69,h70,h71,h74]; try rfl)) .nil)
      ·rcases bt (decide ((((Bi p0 (Int.toNat k1)) : Nat) : Int) ≥ 48)) with h75 | h75
       ·rcases bt (decide ((((Bi p0 (Int.toNat k1)) : Nat) : Int) ≤ 57)) with h76 | h76
        ·exact RT hnt (nn 3 (sk 2 (pF :: nn 4 (sk 2 (pF :: pF :: nn 6 (pT :: pF :: .no :: sk 2 (pT :: .no :: sk 2 (pT :: .no :: [])))))))) [(57,pB false)] (an3 h57 (an3 ff (an2 h69 (an ff (an h69 (an4 ff (an2 h75 (an ff (an h75 (an ff (an3 h76 (an3 tt tv)))))))))))) (by kernel_rfl) (.cons rfl (.of_eq (by rw [h57,h69,h75,h76]; try rfl)) .nil)
        ·rcases bt ((((Bi p0 (Int.toNat k1)) : Nat) : Int) == 95) with h77 | h77
         ·exact RT hnt (nn 3 (sk 2 (pF :: nn 4 (sk 2 (pF :: pF :: nn 6 (pT :: pF :: nn 3 (pF :: .no :: sk 2 (pT :: .no :: [])))))))) [(57,pB false)] (an3 h57 (an3 ff (an2 h69 (an ff (an h69 (an4 ff (an2 h75 (an ff (an h75 (an ff (an3 h76 (an3 h77 tv)))))))))))) (by kernel_rfl) (.cons rfl (.of_eq (by rw [h57,h69,h75,h76,h77]; try rfl)) .nil)
         ·exact RT hnt (nn 3 (sk 2 (pF :: nn 4 (sk 2 (pF :: pF :: nn 6 (pT :: pF :: nn 3 (pF :: nn 3 (pF :: .no :: [])))))))) [(c8e1 p0 k1)] (an3 h57 (an3 ff (an2 h69 (an ff (an h69 (an4 ff (an2 h75 (an ff (an h75 (an ff (an3 h76 (an3 h77 tv)))))))))))) (by kernel_rfl) (.cons rfl (.of_eq (by rw [h57,h69,h75,h76,h77]; try rfl)) .nil)
       ·rcases bt ((((Bi p0 (Int.toNat k1)) : Nat) : Int) == 95) with h78 | h78
        ·exact RT hnt (nn 3 (sk 2 (pF :: nn 4 (sk 2 (pF :: pF :: nn 4 (sk 2 (pF :: pF :: nn 3 (pF :: .no :: sk 2 (pT :: .no :: []))))))))) [(57,pB false)] (an3 h57 (an3 ff (an2 h69 (an ff (an h69 (an4 ff (an2 h75 (an ff (an h75 (an4 ff (an3 h78 tv))))))))))) (by kernel_rfl) (.cons rfl (.of_eq (by rw [h57,h69,h75,h78]; try rfl)) .nil)
        ·exact RT hnt (nn 3 (sk 2 (pF :: nn 4 (sk 2 (pF :: pF :: nn 4 (sk 2 (pF :: pF :: nn 3 (pF :: nn 3 (pF :: .no :: []))))))))) [(c8e1 p0 k1)] (an3 h57 (an3 ff (an2 h69 (an ff (an h69 (an4 ff (an2 h75 (an ff (an h75 (an4 ff (an3 h78 tv))))))))))) (by kernel_rfl) (.cons rfl (.of_eq (by rw [h57,h69,h75,h78]; try rfl)) .nil)
    ·refine Aq hm ?_ ?_
     ·intro h79 hm
      refine Sq (RK hnt (.no :: []) [(2,pB false)] [] tv ?_)
      obtain rfl := sj hm
      exact DW.ret (Am [] [] (pB false))
     ·intro h79 hm
      refine Sk ?_
      refine DW.done ?_
      show DW _ _ _ _ _
      refine RK hnt (nn 3 []) [(0,pS p0),(3,pI (w64 (k1 + 1)))] [] tv ?_
      exact jD () ⟨hlt1,hm⟩ (Conv.tp [(3,pI (w64 (k1 + 1)))] [] (by kernel_rfl) (.cons rfl (.of_eq (congrArg pI (Qd (lo := 0) (hi := ((p0.size : Nat) : Int)) (by omega) hk1 hlt1 (by omega)))) .nil) .nil)
   ·intro h55
    have hge1 : ¬ k1 < ((p0.size : Nat) : Int) := by have := of_decide_eq_false h55; omega
    have hm := he1 hge1
    unfold Aby at hm
    refine DW.exit ?_
    refine Ap ?_
    refine Au ?_
    refine Aj ?_
    show DW _ _ _ _ _
    refine Sq (RK hnt (.no :: []) [(2,pB true)] [] tv ?_)
    obtain rfl := sj hm
    exact DW.ret (Am [] [] (pB true))
 ·rcases bt (((p0.size : Nat) : Int) == 0) with h1 | h1
  ·replace hm := Bc h1 hm
   refine RK hnt (nn 4 (sk 3 (pT :: .no :: sk 3 (pT :: [])))) [(0,pS p0),(17,pB true)] [] (an4 h1 (an4 tt tv)) ?_
   exact jD true hm .refl
  ·replace hm := Bd h1 hm
   rcases bt (decide (((p0.size : Nat) : Int) > 32)) with h2 | h2
   ·replace hm := Bc h2 hm
    refine RK hnt (nn 7 (pF :: .no :: sk 3 (pT :: []))) [(0,pS p0),(17,pB true)] [] (an4 h1 (an4 h2 tv)) ?_
    exact jD true hm .refl
   ·replace hm := Bd h2 hm
    obtain ⟨g3,hm⟩ := go1 hm
    refine RK hnt (nn 7 (pF :: nn 4 (pF :: []))) [(0,pS p0),(17,pB ((((Bi p0 0) : Nat) : Int) == 45))] [] (an4 h1 (an2 h2 (an (nn0 0) (an (ltc g3) (an2 h2 tv))))) ?_
    exact jD ((((Bi p0 0) : Nat) : Int) == 45) hm .refl
abbrev o8 (ks : List Nat) (b : Bool) (RES : Bool) (sm : List Nat := []) : Orc := .call 97 ks b (pB RES) [] [] sm

abbrev Gr (p0 : Ab) (p1 : Int) := (p0.nodes.getD (Int.toNat p1) Dk)
abbrev c7e2 (p0 : Ab) (p1 : Int) : Nat × Obj := (1040,bx (pm (Ca (Gr p0 p1))))
abbrev c7e3 (p0 : Ab) : Nat × Obj := (1016,bx (pm (Ak p0)))
abbrev c7e4 (p0 : Ab) (k1 : Int) := (p0.nodes.getD (Int.toNat k1) Dk)
theorem Aez (p0 : Ab) (p1 : Int) (RES : Bool) (hm : Um p0 p1 = some RES) : Spec Tryz.prog 107 [.p (.agg (Ak p0)),pI p1] [] (pB RES) [] [] := by
 unfold Um at hm
 refine SO Tryz.func107 rfl rfl [(0,.p (.agg (Ak p0))),(1,pI p1)] [] ?_
 intro cx hnt
 refine Sq (RK hnt (nn 2 []) [(1,pI p1),(2,rr 1016)] [(c7e3 p0)] tv ?_)
 obtain ⟨g1,hm⟩ := go1 hm
 refine Sq (RD hnt (nn 7 []) [] [(5,rr 1040)] [] [(c7e2 p0 p1)] (an g1.1 (an g1.2 tv)) ?_)
 refine Sq (Sq (DW.regJ (sl2 := [(1,pI p1),(2,rr 1016),(5,rr 1040),(40,pB (((((((Gr p0 p1).kind != 0) && ((Gr p0 p1).kind != 1)) || (decide ((Gr p0 p1).control < 0))) || (decide ((Gr p0 p1).control > 31))) || (decide ((Gr p0 p1).owner < 0))) || (decide ((Gr p0 p1).owner > 1048576))))]) (ob2 := [(c7e3 p0),(c7e2 p0 p1)]) ?_ ?_))
 ·rcases bt ((Gr p0 p1).kind != 0) with h2 | h2
  ·rcases bt ((Gr p0 p1).kind != 1) with h3 | h3
   ·exact RT hnt (nn 7 (pT :: .no :: sk 3 (pT :: .no :: sk 3 (pT :: .no :: sk 3 (pT :: .no :: sk 3 (pT :: [])))))) [(40,pB true)] (an4 h2 (an4 h3 (an6 tt (an6 tt tv)))) (by kernel_rfl) (.cons rfl (.of_eq (by rw [h2,h3]; try rfl)) .nil)
   ·rcases bt (decide ((Gr p0 p1).control < 0)) with h4 | h4
    ·exact RT hnt (nn 7 (pT :: nn 4 (pF :: .no :: sk 3 (pT :: .no :: sk 3 (pT :: .no :: sk 3 (pT :: [])))))) [(40,pB true)] (an4 h2 (an4 h3 (an4 h4 (an2 tt (an6 tt tv))))) (by kernel_rfl) (.cons rfl (.of_eq (by rw [h2,h3,h4]; try rfl)) .nil)
    ·rcases bt (decide ((Gr p0 p1).control > 31)) with h5 | h5
     ·exact RT hnt (nn 7 (pT :: nn 4 (pF :: nn 4 (pF :: .no :: sk 3 (pT :: .no :: sk 3 (pT :: [])))))) [(40,pB true)] (an4 h2 (an4 h3 (an4 h4 (an4 h5 (an4 tt tv))))) (by kernel_rfl) (.cons rfl (.of_eq (by rw [h2,h3,h4,h5]; try rfl)) .nil)
     ·rcases bt (decide ((Gr p0 p1).owner < 0)) with h6 | h6
      ·exact RT hnt (nn 7 (pT :: nn 4 (pF :: nn 4 (pF :: nn 4 (pF :: .no :: sk 3 (pT :: [])))))) [(40,pB true)] (an4 h2 (an4 h3 (an4 h4 (an4 h5 (an4 h6 tv))))) (by kernel_rfl) (.cons rfl (.of_eq (by rw [h2,h3,h4,h5,h6]; try rfl)) .nil)
      ·exact RT hnt (nn 7 (pT :: nn 4 (pF :: nn 4 (pF :: nn 4 (pF :: nn 4 (pF :: [])))))) [(40,pB (decide ((Gr p0 p1).owner > 1048576)))] (an4 h2 (an4 h3 (an4 h4 (an4 h5 (an4 h6 tv))))) (by kernel_rfl) (.cons rfl (.of_eq (by rw [h2,h3,h4,h5,h6]; try rfl)) .nil)
  ·rcases bt (decide ((Gr p0 p1).control < 0)) with h7 | h7
   ·exact RT hnt (nn 4 (sk 3 (pF :: nn 4 (pF :: .no :: sk 3 (pT :: .no :: sk 3 (pT :: .no :: sk 3 (pT :: []))))))) [(40,pB true)] (an4 h2 (an4 ff (an4 h7 (an2 tt (an6 tt tv))))) (by kernel_rfl) (.cons rfl (.of_eq (by rw [h2,h7]; try rfl)) .nil)
   ·rcases bt (decide ((Gr p0 p1).control > 31)) with h8 | h8
    ·exact RT hnt (nn 4 (sk 3 (pF :: nn 4 (pF :: nn 4 (pF :: .no :: sk 3 (pT :: .no :: sk 3 (pT :: []))))))) [(40,pB true)] (an4 h2 (an4 ff (an4 h7 (an4 h8 (an4 tt tv))))) (by kernel_rfl) (.cons rfl (.of_eq (by rw [h2,h7,h8]; try rfl)) .nil)
    ·rcases bt (decide ((Gr p0 p1).owner < 0)) with h9 | h9
     ·exact RT hnt (nn 4 (sk 3 (pF :: nn 4 (pF :: nn 4 (pF :: nn 4 (pF :: .no :: sk 3 (pT :: []))))))) [(40,pB true)] (an4 h2 (an4 ff (an4 h7 (an4 h8 (an4 h9 tv))))) (by kernel_rfl) (.cons rfl (.of_eq (by rw [h2,h7,h8,h9]; try rfl)) .nil)
     ·exact RT hnt (nn 4 (sk 3 (pF :: nn 4 (pF :: nn 4 (pF :: nn 4 (pF :: nn 4 (pF :: []))))))) [(40,pB (decide ((Gr p0 p1).owner > 1048576)))] (an4 h2 (an4 ff (an4 h7 (an4 h8 (an4 h9 tv))))) (by kernel_rfl) (.cons rfl (.of_eq (by rw [h2,h7,h8,h9]; try rfl)) .nil)
 ·refine Aq hm ?_ ?_
  ·intro h10 hm
   refine Sq (RK hnt (.no :: []) [(4,pB false)] [] tv ?_)
   obtain rfl := sj hm
   exact DW.ret (Am [] [] (pB false))
  ·intro h10 hm
   refine Sk ?_
   refine Sq (Sq (RD hnt (nn 2 []) [40] [(42,pB (p1 == 0))] [] [] tv ?_))
   refine Aq hm ?_ ?_
   ·intro h11 hm
    refine Sq (DW.regJ (sl2 := [(4,pB (((((Gr p0 p1).id == 1) && ((Gr p0 p1).parent == 0)) && (En (Gr p0 p1).name ByteArray.empty)) && ((Gr p0 p1).kind == 0)))]) (ob2 := []) ?_ ?_)
    ·rcases bt ((Gr p0 p1).id == 1) with h12 | h12
     ·rcases bt ((Gr p0 p1).parent == 0) with h13 | h13
      ·rcases bt (En (Gr p0 p1).name ByteArray.empty) with h14 | h14
       ·exact RT hnt (nn 7 (pT :: nn 4 (pT :: nn 4 (pT :: .no :: [])))) [(4,pB ((Gr p0 p1).kind == 0))] (an4 h12 (an4 h13 (an4 h14 tv))) (by kernel_rfl) (.cons rfl (.of_eq (by rw [h12,h13,h14]; try rfl)) .nil)
       ·exact RT hnt (nn 7 (pT :: nn 4 (pT :: .no :: sk 3 (pF :: .no :: [])))) [(4,pB false)] (an4 h12 (an4 h13 (an4 h14 tv))) (by kernel_rfl) (.cons rfl (.of_eq (by rw [h12,h13,h14]; try rfl)) .nil)
      ·exact RT hnt (nn 7 (pT :: .no :: sk 3 (pF :: .no :: sk 3 (pF :: .no :: [])))) [(4,pB false)] (an4 h12 (an4 h13 (an4 ff tv))) (by kernel_rfl) (.cons rfl (.of_eq (by rw [h12,h13]; try rfl)) .nil)
     ·exact RT hnt (nn 4 (sk 3 (pF :: .no :: sk 3 (pF :: .no :: sk 3 (pF :: .no :: []))))) [(4,pB false)] (an4 h12 (an2 ff (an6 ff tv))) (by kernel_rfl) (.cons rfl (.of_eq (by rw [h12]; try rfl)) .nil)
    ·refine DW.ret ?_
     obtain rfl := sj hm
     exact Am [] [] (pB (((((Gr p0 p1).id == 1) && ((Gr p0 p1).parent == 0)) && (En (Gr p0 p1).name ByteArray.empty)) && ((Gr p0 p1).kind == 0)))
   ·intro h11 hm
    refine Sk ?_
    obtain ⟨g15,hm⟩ := go1 hm
    refine Sq (Sq ?_)
    refine Jn (ι := Bool) (fun (y1 : Bool) => Ae [(1,pI p1),(2,rr 1016),(5,rr 1040),(76,pB y1)] [(c7e3 p0),(c7e2 p0 p1)]) (fun y1 => (Qs p0 p1) y1 = some RES) ?_ ?_
    ·intro y1 hm
     unfold Qs at hm
     refine Aq hm ?_ ?_
     ·intro h18 hm
      refine Sq (RK hnt (.no :: []) [(4,pB false)] [] tv ?_)
      obtain rfl := sj hm
      exact DW.ret (Am [] [] (pB false))
     ·intro h18 hm
      refine Sk ?_
      refine Sq (RD hnt (.no :: []) [76] [(6,pB false)] [] [] tv ?_)
      refine Sq (Sq (RD hnt (.no :: []) [] [(7,pI 0)] [] [] tv ?_))
      refine Bk ?_
      obtain ⟨hc1,hm⟩ := go1 hm
      refine DW.forO (fun (k1 : Int) (s1 : Bool) => Ae [(1,pI p1),(2,rr 1016),(5,rr 1040),(6,pB s1),(7,pI k1)] [(c7e3 p0),(c7e2 p0 p1)]) (lo := 0) (hi := p1) hm Conv.eqK ?_
      intro k1 s1 n1 hk1 hs1 he1
      refine Sq (Sq (RD hnt (nn 3 []) [] [(79,pB (decide (k1 < p1)))] [] [] tv ?_))
      refine Ej (decide (k1 < p1)) ?_ ?_
      ·intro h32
       have hlt1 : k1 < p1 := by have := of_decide_eq_true h32; omega
       have hm := hs1 hlt1
       unfold Zh at hm
       refine Sk ?_
       refine Sq (Bk ?_)
       refine Sq ?_
       refine Jn (ι := Bool) (fun (y5 : Bool) => Ae [(1,pI p1),(2,rr 1016),(5,rr 1040),(6,pB y5),(7,pI k1)] [(c7e3 p0),(c7e2 p0 p1)]) (fun y5 => (Oj p0 p1 k1 n1) y5 = some RES) ?_ ?_
       ·intro y5 hm
        unfold Oj at hm
        obtain ⟨g35,hm⟩ := go1 hm
        refine Sq ?_
        refine Jn (ι := Bool) (fun (y6 : Bool) => Ae [(1,pI p1),(2,rr 1016),(5,rr 1040),(6,pB y5),(7,pI k1),(113,pB y6)] [(c7e3 p0),(c7e2 p0 p1)]) (fun y6 => (Oi n1 y5) y6 = some RES) ?_ ?_
        ·intro y6 hm
         unfold Oi at hm
         refine Aq hm ?_ ?_
         ·intro h38 hm
          refine Sq (RK hnt (.no :: []) [(4,pB false)] [] tv ?_)
          obtain rfl := sj hm
          exact DW.ret (Am [] [] (pB false))
         ·intro h38 hm
          refine Sk ?_
          refine DW.done ?_
          show DW _ _ _ _ _
          refine RD hnt (nn 3 []) [113] [(7,pI (w64 (k1 + 1)))] [] [] tv ?_
          exact jD y5 ⟨hlt1,hm⟩ (Conv.tp [(7,pI (w64 (k1 + 1)))] [] (by kernel_rfl) (.cons rfl (.of_eq (congrArg pI (Qd (lo := 0) (hi := p1) (by omega) hk1 hlt1 (by omega)))) .nil) .nil)
        ·rcases bt ((c7e4 p0 k1).parent == (Gr p0 p1).parent) with h36 | h36
         ·replace hm := Bc h36 hm
          obtain ⟨g37,hm⟩ := go1 hm
          refine RD hnt (nn 19 (pT :: [])) [] [(113,pB (En (c7e4 p0 k1).name (Gr p0 p1).name))] [] [] (an g35.1 (an g35.2 (an4 h36 (an g37.1 (an g37.2 (an6 h36 tv)))))) ?_
          exact jD (En (c7e4 p0 k1).name (Gr p0 p1).name) hm Conv.eqK
         ·replace hm := Bd h36 hm
          refine RD hnt (nn 10 (sk 9 (pF :: []))) [] [(113,pB false)] [] [] (an g35.1 (an g35.2 (an4 h36 (an6 h36 tv)))) ?_
          exact jD false hm Conv.eqK
       ·rcases bt s1 with h33 | h33
        ·replace hm := Bc h33 hm
         refine RD hnt (nn 2 (sk 9 (pT :: .no :: []))) [79] [(6,pB true)] [] [] (an4 h33 (an6 h33 tv)) ?_
         exact jD true hm Conv.eqK
        ·replace hm := Bd h33 hm
         obtain ⟨g34,hm⟩ := go1 hm
         refine RD hnt (nn 11 (pF :: .no :: [])) [79] [(6,pB ((c7e4 p0 k1).id == (Gr p0 p1).parent))] [] [] (an4 h33 (an g34.1 (an g34.2 (an6 h33 tv)))) ?_
         exact jD ((c7e4 p0 k1).id == (Gr p0 p1).parent) hm Conv.eqK
      ·intro h32
       have hge1 : ¬ k1 < p1 := by have := of_decide_eq_false h32; omega
       have hm := he1 hge1
       unfold Acs at hm
       refine DW.exit ?_
       refine Ap ?_
       refine Au ?_
       refine Aj ?_
       show DW _ _ _ _ _
       refine Sq (RK hnt (nn 2 []) [(4,pB s1)] [] tv ?_)
       obtain rfl := sj hm
       exact DW.ret (Am [] [] (pB s1))
    ·rcases bt (decide ((Gr p0 p1).id ≤ (p0.nodes.getD (Int.toNat (w64 (p1 - 1))) Dk).id)) with h16 | h16
     ·replace hm := Bc h16 hm
      refine RD hnt (nn 11 (sk 4 (pT :: []))) [42] [(76,pB true)] [] [] (an g15.1 (an g15.2 (an5 h16 tv))) ?_
      exact jD true hm Conv.eqK
     ·replace hm := Bd h16 hm
      obtain ⟨r17,hr17,hm⟩ := bo hm
      refine RD hnt (nn 13 (o8 [] true r17 :: .no :: pF :: [])) [42] [(76,pB (!r17))] [] [] (an g15.1 (an g15.2 (an3 h16 (an (Zl (Gr p0 p1).name r17 hr17) (an2 h16 tv))))) ?_
      exact jD (!r17) hm Conv.eqK
abbrev o7 (ks : List Nat) (b : Bool) (RES : Bool) (sm : List Nat := []) : Orc := .call 107 ks b (pB RES) [] [] sm

theorem Acg (p0 : Ab) (p1 : Int) (RES : List Int) (hm : Wg p0 p1 = some RES) : Spec Tryz.prog 108 [.p (.agg (Ak p0)),pI p1] [] (ow 0 RES.length) [] [roI RES] := by
 unfold Wg at hm
 refine SO Tryz.func108 rfl rfl [(0,.p (.agg (Ak p0))),(1,pI p1)] [] ?_
 intro cx hnt
 refine Sq (RK hnt (nn 2 []) [(1,pI p1),(2,rr 1016)] [(1016,bx (pm (Ak p0)))] tv ?_)
 refine Sq (RD hnt (.no :: []) [] [(5,.p (.sl .nil 0 0 (fun _ => [])))] [] [] tv ?_)
 refine Sq (Sq (RD hnt (nn 5 []) [] [(6,pI (w64 (((p0.nodes.length : Nat) : Int) - 1)))] [] [] tv ?_))
 refine Bk ?_
 refine DW.whileO (fun (s1 : (List Int) × Int × Int) => Ae [(1,pI s1.2.1),(2,rr 1016),(5,ow 1208 s1.1.length),(6,pI s1.2.2)] [(1016,bx (pm (Ak p0))),(1208,ob0 (roI s1.1))]) hm (Conv.ads [(.s 5,1208,1,elems Az 0 [])]) ?_
 intro s1 n1 hm
 unfold Abv at hm
 refine Sq (Sq (RD hnt (nn 2 []) [] [(12,pB (decide (s1.2.2 ≥ 0)))] [] [] tv ?_))
 refine Aq hm ?_ ?_
 ·intro h5 hm
  refine Sk ?_
  refine Sq ?_
  refine Jn (ι := (List Int) × Int) (fun (y2 : (List Int) × Int) => Ae [(1,pI y2.2),(2,rr 1016),(5,ow 1208 y2.1.length),(6,pI s1.2.2)] [(1016,bx (pm (Ak p0))),(1208,ob0 (roI y2.1))]) (fun y2 => (Rz s1 n1) y2 = some RES) ?_ ?_
  ·intro y2 hm
   unfold Rz at hm
   refine RD hnt (nn 3 []) [] [(6,pI (w64 (s1.2.2 - 1)))] [] [] tv ?_
   exact jD (y2.1,y2.2,(w64 (s1.2.2 - 1))) hm Conv.eqK
  ·refine Bk ?_
   obtain ⟨g6,hm⟩ := go1 hm
   refine Sq (RD hnt (nn 8 []) [12] [(22,pB ((p0.nodes.getD (Int.toNat s1.2.2) Dk).id == s1.2.1))] [] [] (an g6.1 (an g6.2 tv)) ?_)
   refine Aq hm ?_ ?_
   ·intro h7 hm
    obtain ⟨g8,hm⟩ := go1 hm
    refine Sq (RN hnt (nn 5 []) [(2,rr 1016),(5,ow 1208 (s1.1 ++ [s1.2.1]).length),(6,pI s1.2.2)] [(1016,bx (pm (Ak p0))),(1208,ob0 (roI (s1.1 ++ [s1.2.1])))] [(5,ow 1208 (s1.1.length + 1))] [(1208,.row 1 (s1.1.length + 1) (Em s1.1.length (elI s1.1) (cut 1 [vi s1.2.1])))] (an (by omega : (s1.1.length + 1) * 8 ≤ 140737488355328) tv) (by kernel_rfl) (.cons rfl (MLe.ownLen (enc := Az) (d := 0) (f := (Em s1.1.length (elI s1.1) (cut 1 [vi s1.2.1]))) (RowIs.cat RowIs.elems (RowIs.lit (enc := Az) (d := 0) (n := 1) (f := (cut 1 [vi s1.2.1])) [s1.2.1] rfl (fun | 0,_ => rfl | n + 1,h => absurd h (by omega))))) .nil) (.cons rfl (BLe.typed (RowIs.cat RowIs.elems (RowIs.lit (enc := Az) (d := 0) (n := 1) (f := (cut 1 [vi s1.2.1])) [s1.2.1] rfl (fun | 0,_ => rfl | n + 1,h => absurd h (by omega))))) .nil) ?_)
    obtain ⟨g9,hm⟩ := go1 hm
    refine RD hnt (nn 7 []) [] [(1,pI (p0.nodes.getD (Int.toNat s1.2.2) Dk).parent)] [] [] (an g9.1 (an g9.2 tv)) ?_
    exact bD ((s1.1 ++ [s1.2.1]),(p0.nodes.getD (Int.toNat s1.2.2) Dk).parent) hm Conv.eqK
   ·intro h7 hm
    refine Sk ?_
    exact bD (s1.1,s1.2.1) hm Conv.t0
 ·intro h5 hm
  refine DW.exit ?_
  refine Ap ?_
  refine Au ?_
  refine Aj ?_
  show DW _ _ _ _ _
  refine Sq (RK hnt (nn 2 []) [(4,ow 1208 s1.1.length)] [(1208,ob0 (roI s1.1))] tv ?_)
  obtain rfl := sj hm
  exact DW.ret (Am [roI s1.1] [1208] (ow 0 s1.1.length))
abbrev o9 (ks : List Nat) (b : Bool) (RES : List Int) (sm : List Nat := []) : Orc := .call 108 ks b (ow 0 RES.length) [] [roI RES] sm

abbrev c6e1 (p0 : Ab) : Nat × MV := (3,pI ((p0.nodes.length : Nat) : Int))
theorem Mr (p0 : Ab) (RES : Bool) (hm : Kn p0 = some RES) : Spec Tryz.prog 54 [.p (.agg (Ak p0))] [] (pB RES) [] [] := by
 unfold Kn at hm
 refine SO Tryz.func54 rfl rfl [(0,.p (.agg (Ak p0)))] [] ?_
 intro cx hnt
 refine Sq (RK hnt (nn 2 []) [(1,rr 1008)] [(1008,bx (pm (Ak p0)))] tv ?_)
 refine Sq (RD hnt (nn 4 []) [] [(c6e1 p0)] [] [] tv ?_)
 refine Sq (Sq (DW.regJ (sl2 := [(1,rr 1008),(c6e1 p0),(14,pB ((decide (((p0.nodes.length : Nat) : Int) < 1)) || (decide (((p0.nodes.length : Nat) : Int) > 64))))]) (ob2 := [(1008,bx (pm (Ak p0)))]) ?_ ?_))
 ·rcases bt (decide (((p0.nodes.length : Nat) : Int) < 1)) with h1 | h1
  ·exact RT hnt (nn 3 (sk 2 (pT :: []))) [(14,pB true)] (an3 h1 tv) (by kernel_rfl) (.cons rfl (.of_eq (by rw [h1]; try rfl)) .nil)
  ·exact RT hnt (nn 5 (pF :: [])) [(14,pB (decide (((p0.nodes.length : Nat) : Int) > 64)))] (an3 h1 tv) (by kernel_rfl) (.cons rfl (.of_eq (by rw [h1]; try rfl)) .nil)
 ·refine Aq hm ?_ ?_
  ·intro h2 hm
   refine Sq (RK hnt (.no :: []) [(2,pB false)] [] tv ?_)
   obtain rfl := sj hm
   exact DW.ret (Am [] [] (pB false))
  ·intro h2 hm
   refine Sk ?_
   refine Sq (Sq (RD hnt (.no :: []) [14] [(4,pI 0)] [] [] tv ?_))
   refine Bk ?_
   obtain ⟨hc1,hm⟩ := go1 hm
   refine DW.rangeO (fun (k1 : Nat) (s1 : Unit) => Ae [(1,rr 1008),(c6e1 p0),(4,pI ((k1 : Nat) : Int))] [(1008,bx (pm (Ak p0)))]) Dk hm Conv.eqK ?_
   intro k1 s1 n1 hk1 hs1 he1
   refine Sq (Sq (RD hnt (nn 3 []) [] [(17,pB (decide (((k1 : Nat) : Int) < ((p0.nodes.length : Nat) : Int))))] [] [] tv ?_))
   refine Ej (decide (((k1 : Nat) : Int) < ((p0.nodes.length : Nat) : Int))) ?_ ?_
   ·intro h32
    have hlt1 : k1 < p0.nodes.length := by have := of_decide_eq_true h32; omega
    have hm := hs1 hlt1
    unfold Wq at hm
    refine Sk ?_
    refine Sq (Bk ?_)
    obtain ⟨r33,hr33,hm⟩ := bo hm
    refine Sq (RD hnt (nn 2 (o7 [] true r33 :: .no :: [])) [17] [(23,pB (!r33))] [] [] (an (Aez p0 ((k1 : Nat) : Int) r33 hr33) tv) ?_)
    refine Aq hm ?_ ?_
    ·intro h34 hm
     refine Sq (RK hnt (.no :: []) [(2,pB false)] [] tv ?_)
     obtain rfl := sj hm
     exact DW.ret (Am [] [] (pB false))
    ·intro h34 hm
     refine Sk ?_
     refine DW.done ?_
     show DW _ _ _ _ _
     refine RD hnt (nn 3 []) [23] [(4,pI (w64 (((k1 : Nat) : Int) + 1)))] [] [] tv ?_
     exact jD () ⟨hlt1,hm⟩ (Conv.tp [(4,pI (w64 (((k1 : Nat) : Int) + 1)))] [] (by kernel_rfl) (.cons rfl (.of_eq (congrArg pI (Da hlt1 hc1))) .nil) .nil)
   ·intro h32
    have hge1 : ¬ k1 < p0.nodes.length := by have := of_decide_eq_false h32; omega
    have hm := he1 hge1
    unfold Xb at hm
    refine DW.exit ?_
    refine Ap ?_
    refine Au ?_
    refine Aj ?_
    show DW _ _ _ _ _
    refine Sq (Sq (RD hnt (.no :: []) [4,17] [(5,pI 0)] [] [] tv ?_))
    refine Bk ?_
    obtain ⟨hc4,hm⟩ := go1 hm
    refine DW.rangeO (fun (k4 : Nat) (s4 : Unit) => Ae [(1,rr 1008),(c6e1 p0),(5,pI ((k4 : Nat) : Int))] [(1008,bx (pm (Ak p0)))]) Dk hm Conv.eqK ?_
    intro k4 s4 n4 hk4 hs4 he4
    refine Sq (Sq (RD hnt (nn 3 []) [] [(26,pB (decide (((k4 : Nat) : Int) < ((p0.nodes.length : Nat) : Int))))] [] [] tv ?_))
    refine Ej (decide (((k4 : Nat) : Int) < ((p0.nodes.length : Nat) : Int))) ?_ ?_
    ·intro h49
     have hlt4 : k4 < p0.nodes.length := by have := of_decide_eq_true h49; omega
     have hm := hs4 hlt4
     unfold Wj at hm
     refine Sk ?_
     refine Sq (Bk ?_)
     obtain ⟨r50,hr50,hm⟩ := bo hm
     refine Sq (RD hnt (nn 7 (o9 [] true r50 :: nn 2 [])) [26] [(38,pB (decide (((r50.length : Nat) : Int) > 9)))] [] [] (an (nn0 k4) (an (ltc hlt4) (an (Acg p0 (p0.nodes.getD k4 (default : Ah)).id r50 hr50) tv))) ?_)
     refine Aq hm ?_ ?_
     ·intro h51 hm
      refine Sq (RK hnt (.no :: []) [(2,pB false)] [] tv ?_)
      obtain rfl := sj hm
      exact DW.ret (Am [] [] (pB false))
     ·intro h51 hm
      refine Sk ?_
      refine DW.done ?_
      show DW _ _ _ _ _
      refine RD hnt (nn 3 []) [38] [(5,pI (w64 (((k4 : Nat) : Int) + 1)))] [] [] tv ?_
      exact jD () ⟨hlt4,hm⟩ (Conv.tp [(5,pI (w64 (((k4 : Nat) : Int) + 1)))] [] (by kernel_rfl) (.cons rfl (.of_eq (congrArg pI (Da hlt4 hc4))) .nil) .nil)
    ·intro h49
     have hge4 : ¬ k4 < p0.nodes.length := by have := of_decide_eq_false h49; omega
     have hm := he4 hge4
     unfold Xn at hm
     refine DW.exit ?_
     refine Ap ?_
     refine Au ?_
     refine Aj ?_
     show DW _ _ _ _ _
     obtain ⟨g52,hm⟩ := go1 hm
     refine Sq ?_
     refine Jn (ι := Bool) (fun (y7 : Bool) => Ae [(2,pB y7)] []) (fun y7 => Pp y7 = some RES) ?_ ?_
     ·intro y7 hm
      unfold Pp at hm
      obtain rfl := sj hm
      exact DW.ret (Am [] [] (pB y7))
     ·rcases bt (decide (p0.next > (p0.nodes.getD (Int.toNat (w64 (((p0.nodes.length : Nat) : Int) - 1))) Dk).id)) with h53 | h53
      ·replace hm := Bc h53 hm
       refine RK hnt (nn 14 (pT :: .no :: [])) [(2,pB (decide (p0.next ≤ 2147483648)))] [] (an g52.1 (an g52.2 (an4 h53 tv))) ?_
       exact jD (decide (p0.next ≤ 2147483648)) hm .refl
      ·replace hm := Bd h53 hm
       refine RK hnt (nn 11 (sk 3 (pF :: .no :: []))) [(2,pB false)] [] (an g52.1 (an g52.2 (an4 h53 tv))) ?_
       exact jD false hm .refl
abbrev o6 (ks : List Nat) (b : Bool) (RES : Bool) (sm : List Nat := []) : Orc := .call 54 ks b (pB RES) [] [] sm

theorem AaL (p0 : Ab) (p1 : Int) (RES : Ah × Bool) (hm : Pv p0 p1 = some RES) : Spec Tryz.prog 16 [.p (.agg (Ak p0)),pI p1] [] (.p (.tup [.agg (Ca RES.1),vb RES.2])) [] [] := by
 unfold Pv at hm
 refine SO Tryz.func16 rfl rfl [(0,.p (.agg (Ak p0))),(1,pI p1)] [] ?_
 intro cx hnt
 refine Sq (RK hnt (nn 3 []) [(1,pI p1),(2,rr 1016),(4,rr 1032)] [(1016,bx (pm (Ak p0))),(1032,bx [pI 0,pI 0,pS ByteArray.empty,pI 0,pI 0,pI 0])] tv ?_)
 obtain ⟨r1,hr1,hm⟩ := bo hm
 refine Sq (Sq (RD hnt (.no :: o6 [] true r1 :: .no :: []) [] [(9,pB (!r1))] [] [] (an (Mr p0 r1 hr1) tv) ?_))
 refine Aq hm ?_ ?_
 ·intro h2 hm
  refine Sq (RD hnt (nn 3 []) [1,2,9] [(5,pB false)] [1016] [] tv ?_)
  obtain rfl := sj hm
  exact DW.ret (Am [] [] (.p (.tup [.agg [vi 0,vi 0,vs ByteArray.empty,vi 0,vi 0,vi 0],vb false])))
 ·intro h2 hm
  refine Sk ?_
  refine Sq (Sq (RD hnt (.no :: []) [9] [(6,pI 0)] [] [] tv ?_))
  refine Bk ?_
  obtain ⟨hc1,hm⟩ := go1 hm
  refine DW.rangeO (fun (k1 : Nat) (s1 : Unit) => Ae [(1,pI p1),(2,rr 1016),(4,rr 1032),(6,pI ((k1 : Nat) : Int))] [(1016,bx (pm (Ak p0))),(1032,bx [pI 0,pI 0,pS ByteArray.empty,pI 0,pI 0,pI 0])]) Dk hm Conv.eqK ?_
  intro k1 s1 n1 hk1 hs1 he1
  refine Sq (Sq (RD hnt (nn 5 []) [] [(15,pB (decide (((k1 : Nat) : Int) < ((p0.nodes.length : Nat) : Int))))] [] [] tv ?_))
  refine Ej (decide (((k1 : Nat) : Int) < ((p0.nodes.length : Nat) : Int))) ?_ ?_
  ·intro h11
   have hlt1 : k1 < p0.nodes.length := by have := of_decide_eq_true h11; omega
   have hm := hs1 hlt1
   unfold Ack at hm
   refine Sk ?_
   refine Sq (Bk ?_)
   refine Sq (RD hnt (nn 8 []) [15] [(25,pB ((p0.nodes.getD k1 (default : Ah)).id == p1))] [] [] (an (nn0 k1) (an (ltc hlt1) tv)) ?_)
   refine Aq hm ?_ ?_
   ·intro h12 hm
    refine Sq (RK hnt (nn 7 []) [(4,rr 1032),(5,pB true)] [(1032,bx (pm (Ca (p0.nodes.getD k1 (default : Ah)))))] (an (nn0 k1) (an (ltc hlt1) tv)) ?_)
    obtain rfl := sj hm
    exact DW.ret (Am [] [] (.p (.tup [.agg (Ca (p0.nodes.getD k1 (default : Ah))),vb true])))
   ·intro h12 hm
    refine Sk ?_
    refine DW.done ?_
    show DW _ _ _ _ _
    refine RD hnt (nn 3 []) [25] [(6,pI (w64 (((k1 : Nat) : Int) + 1)))] [] [] tv ?_
    exact jD () ⟨hlt1,hm⟩ (Conv.tp [(6,pI (w64 (((k1 : Nat) : Int) + 1)))] [] (by kernel_rfl) (.cons rfl (.of_eq (congrArg pI (Da hlt1 hc1))) .nil) .nil)
  ·intro h11
   have hge1 : ¬ k1 < p0.nodes.length := by have := of_decide_eq_false h11; omega
   have hm := he1 hge1
   unfold Acy at hm
   refine DW.exit ?_
   refine Ap ?_
   refine Au ?_
   refine Aj ?_
   show DW _ _ _ _ _
   refine Sq (RD hnt (nn 3 []) [1,2,6,15] [(5,pB false)] [1016] [] tv ?_)
   obtain rfl := sj hm
   exact DW.ret (Am [] [] (.p (.tup [.agg [vi 0,vi 0,vs ByteArray.empty,vi 0,vi 0,vi 0],vb false])))
abbrev o11 (ks : List Nat) (b : Bool) (RES : Ah × Bool) (sm : List Nat := []) : Orc := .call 16 ks b (.p (.tup [.agg (Ca RES.1),vb RES.2])) [] [] sm

theorem Tc (p0 : Ab) (p1 : Int) (RES : Bool) (hm : Pi p0 p1 = some RES) : Spec Tryz.prog 84 [.p (.agg (Ak p0)),pI p1] [] (pB RES) [] [] := by
 unfold Pi at hm
 refine SO Tryz.func84 rfl rfl [(0,.p (.agg (Ak p0))),(1,pI p1)] [] ?_
 intro cx hnt
 refine Sq (RK hnt (nn 2 []) [(1,pI p1),(2,rr 1016)] [(1016,bx (pm (Ak p0)))] tv ?_)
 obtain ⟨r1,hr1,hm⟩ := bo hm
 refine Sq (RK hnt (nn 2 (o11 [] true r1 :: nn 6 [])) [(6,pB r1.2)] [] (an (AaL p0 p1 r1 hr1) tv) ?_)
 refine Sq (RK hnt (nn 2 []) [(4,pB r1.2)] [] tv ?_)
 obtain rfl := sj hm
 exact DW.ret (Am [] [] (pB r1.2))
abbrev o10 (ks : List Nat) (b : Bool) (RES : Bool) (sm : List Nat := []) : Orc := .call 84 ks b (pB RES) [] [] sm

theorem Abu (p0 : Ab) (p1 : Int) (RES : List Int) (hm : Nf p0 p1 = some RES) : Spec Tryz.prog 95 [.p (.agg (Ak p0)),pI p1] [] (ow 0 RES.length) [] [roI RES] := by
 unfold Nf at hm
 refine SO Tryz.func95 rfl rfl [(0,.p (.agg (Ak p0))),(1,pI p1)] [] ?_
 intro cx hnt
 refine Sq (RK hnt (nn 2 []) [(1,pI p1),(2,rr 1016)] [(1016,bx (pm (Ak p0)))] tv ?_)
 obtain ⟨r1,hr1,hm⟩ := bo hm
 refine Sq (Sq (RD hnt (nn 2 (o10 [] true r1 :: .no :: [])) [] [(8,pB (!r1))] [] [] (an (Tc p0 p1 r1 hr1) tv) ?_))
 refine Aq hm ?_ ?_
 ·intro h2 hm
  refine Sq (RK hnt (.no :: []) [(4,.p (.sl .nil 0 0 (fun _ => [])))] [] tv ?_)
  refine DW.cv [] [(4,ow 100000 0)] [] [(100000,ob0 (roI []))] (Conv.ads [(.s 4,100000,1,elems Az 0 [])]) ?_
  obtain rfl := sj hm
  exact DW.ret (Am [roI []] [100000] (ow 0 0))
 ·intro h2 hm
  refine Sk ?_
  obtain ⟨r3,hr3,hm⟩ := bo hm
  refine Sq (RK hnt (nn 2 (o9 [] true r3 :: .no :: [])) [(4,ow 1088 r3.length)] [(1088,ob0 (roI r3))] (an (Acg p0 p1 r3 hr3) tv) ?_)
  obtain rfl := sj hm
  exact DW.ret (Am [roI r3] [1088] (ow 0 r3.length))
abbrev o13 (ks : List Nat) (b : Bool) (RES : List Int) (sm : List Nat := []) : Orc := .call 95 ks b (ow 0 RES.length) [] [roI RES] sm

theorem Ua (p0 : Ab) (p1 : Int) (RES : Int) (hm : Tg p0 p1 = some RES) : Spec Tryz.prog 98 [.p (.agg (Ak p0)),pI p1] [] (pI RES) [] [] := by
 unfold Tg at hm
 refine SO Tryz.func98 rfl rfl [(0,.p (.agg (Ak p0))),(1,pI p1)] [] ?_
 intro cx hnt
 refine Sq (RK hnt (nn 2 []) [(1,pI p1),(2,rr 1016)] [(1016,bx (pm (Ak p0)))] tv ?_)
 obtain ⟨r1,hr1,hm⟩ := bo hm
 refine Sq (RK hnt (nn 2 (o13 [] true r1 :: nn 3 [])) [(4,pI (w64 (((r1.length : Nat) : Int) - 1)))] [] (an (Abu p0 p1 r1 hr1) tv) ?_)
 obtain rfl := sj hm
 exact DW.ret (Am [] [] (pI (w64 (((r1.length : Nat) : Int) - 1))))
abbrev o12 (ks : List Nat) (b : Bool) (RES : Int) (sm : List Nat := []) : Orc := .call 98 ks b (pI RES) [] [] sm

theorem AeI (p0 : Ab) (RES : Ab) (hm : Uu p0 = some RES) : Spec Tryz.prog 99 [.p (.agg (Ak p0))] [] (.agg [ow 0 RES.nodes.length,pI RES.next]) [] [Cs RES.nodes] := by
 unfold Uu at hm
 refine SO Tryz.func99 rfl rfl [(0,.p (.agg (Ak p0)))] [] ?_
 intro cx hnt
 refine Sq (RK hnt (nn 2 []) [(1,rr 1008),(2,rr 1016)] [(1008,bx (pm (Ak p0))),(1016,bx [.p (.sl .nil 0 0 (fun _ => [])),pI 0])] tv ?_)
 obtain ⟨g1,hm⟩ := go1 hm
 refine Sq (RN hnt (nn 7 []) [(2,rr 1016)] [(1016,bx [ow 1040 p0.nodes.length,pI p0.next]),(1040,ob0 (Cs p0.nodes))] [] [(1040,.row 6 p0.nodes.length (Uq p0.nodes))] (an (by omega : p0.nodes.length * 56 ≤ 140737488355328) tv) (by kernel_rfl) .nil (.cons rfl (BLe.typed RowIs.elems) .nil) ?_)
 obtain rfl := sj hm
 exact DW.ret (Am [Cs p0.nodes] [1040] (.agg [ow 0 p0.nodes.length,pI p0.next]))
abbrev o14 (ks : List Nat) (b : Bool) (RES : Ab) (sm : List Nat := []) : Orc := .call 99 ks b (.agg [ow 0 RES.nodes.length,pI RES.next]) [] [Cs RES.nodes] sm

abbrev c5e1 (p0 : Ab) (p1 : Int) (p2 : ByteArray) := ({ id := p0.next,parent := p1,name := p2,control := 0,kind := 0,owner := 0 } : Ah)
abbrev c5e2 : Nat × Obj := (1048,bx [.p (.sl .nil 0 0 (fun _ => [])),pI 0])
abbrev c5e3 (p0 : Ab) : Nat × Obj := (1024,bx (pm (Ak p0)))
abbrev c5e4 : Nat × Obj := (1048,bx [ow 100000 0,pI 0])
theorem Xe (p0 : Ab) (p1 : Int) (p2 : ByteArray) (RES : Ab × Int × Int) (hm : Nw p0 p1 p2 = some RES) : Spec Tryz.prog 43 [.p (.agg (Ak p0)),pI p1,pS p2] [] (.tup [.agg [ow 0 RES.1.nodes.length,pI RES.1.next],pI RES.2.1,pI RES.2.2]) [] [Cs RES.1.nodes] := by
 unfold Nw at hm
 refine SO Tryz.func43 rfl rfl [(0,.p (.agg (Ak p0))),(1,pI p1),(2,pS p2)] [] ?_
 intro cx hnt
 refine Sq (RD hnt (nn 4 []) [0] [(3,rr 1024),(6,rr 1048)] [] [(c5e3 p0),(c5e2)] tv ?_)
 obtain ⟨r1,hr1,hm⟩ := bo hm
 refine Sq (Sq ?_)
 refine Jn (ι := Bool) (fun (y1 : Bool) => Ae [(1,pI p1),(2,pS p2),(3,rr 1024),(6,rr 1048),(18,pB y1)] [(c5e3 p0),(c5e2)]) (fun y1 => (Td p0 p1 p2) y1 = some RES) ?_ ?_
 ·intro y1 hm
  unfold Td at hm
  refine Aq hm ?_ ?_
  ·intro h4 hm
   refine Sq (RD hnt (nn 4 []) [1,2,3,18] [(7,pI 0),(8,pI 1)] [1024] [] tv ?_)
   refine DW.cv [] [] [] [(c5e4),(100000,ob0 (Cs []))] (Conv.ads [(.o 1048 0,100000,6,elems Ca Dk [])]) ?_
   obtain rfl := sj hm
   exact DW.ret (Am [Cs []] [100000] (.tup [.agg [ow 0 0,pI 0],pI 0,pI 1]))
  ·intro h4 hm
   refine Sk ?_
   obtain ⟨r5,hr5,hm⟩ := bo hm
   refine Sq (Sq (RD hnt (nn 2 (o10 [] true r5 :: .no :: [])) [18] [(23,pB (!r5))] [] [] (an (Tc p0 p1 r5 hr5) tv) ?_))
   refine Aq hm ?_ ?_
   ·intro h6 hm
    refine Sq (RD hnt (nn 4 []) [1,2,3,23] [(7,pI 0),(8,pI 4)] [1024] [] tv ?_)
    refine DW.cv [] [] [] [(c5e4),(100000,ob0 (Cs []))] (Conv.ads [(.o 1048 0,100000,6,elems Ca Dk [])]) ?_
    obtain rfl := sj hm
    exact DW.ret (Am [Cs []] [100000] (.tup [.agg [ow 0 0,pI 0],pI 0,pI 4]))
   ·intro h6 hm
    refine Sk ?_
    refine Sq (Sq (RD hnt (.no :: []) [23] [(9,pI 0)] [] [] tv ?_))
    refine Bk ?_
    obtain ⟨hc1,hm⟩ := go1 hm
    refine DW.rangeO (fun (k1 : Nat) (s1 : Unit) => Ae [(1,pI p1),(2,pS p2),(3,rr 1024),(6,rr 1048),(9,pI ((k1 : Nat) : Int))] [(c5e3 p0),(c5e2)]) Dk hm Conv.eqK ?_
    intro k1 s1 n1 hk1 hs1 he1
    refine Sq (Sq (RD hnt (nn 5 []) [] [(29,pB (decide (((k1 : Nat) : Int) < ((p0.nodes.length : Nat) : Int))))] [] [] tv ?_))
    refine Ej (decide (((k1 : Nat) : Int) < ((p0.nodes.length : Nat) : Int))) ?_ ?_
    ·intro h29
     have hlt1 : k1 < p0.nodes.length := by have := of_decide_eq_true h29; omega
     have hm := hs1 hlt1
     unfold Aai at hm
     refine Sk ?_
     refine Sq (Bk ?_)
     refine Sq (DW.regJ (sl2 := [(1,pI p1),(2,pS p2),(3,rr 1024),(6,rr 1048),(9,pI ((k1 : Nat) : Int)),(49,pB (((p0.nodes.getD k1 (default : Ah)).parent == p1) && (En (p0.nodes.getD k1 (default : Ah)).name p2)))]) (ob2 := [(c5e3 p0),(c5e2)]) ?_ ?_)
     ·rcases bt ((p0.nodes.getD k1 (default : Ah)).parent == p1) with h30 | h30
      ·exact RT hnt (nn 17 (pT :: [])) [(49,pB (En (p0.nodes.getD k1 (default : Ah)).name p2))] (an (nn0 k1) (an (ltc hlt1) (an4 h30 (an (nn0 k1) (an (ltc hlt1) (an5 h30 tv)))))) (by kernel_rfl) (.cons rfl (.of_eq (by rw [h30]; try rfl)) .nil)
      ·exact RT hnt (nn 9 (sk 8 (pF :: []))) [(49,pB false)] (an (nn0 k1) (an (ltc hlt1) (an3 h30 (an6 h30 tv)))) (by kernel_rfl) (.cons rfl (.of_eq (by rw [h30]; try rfl)) .nil)
     ·refine Aq hm ?_ ?_
      ·intro h31 hm
       refine Sq (RD hnt (nn 4 []) [1,2,3,9,49] [(7,pI 0),(8,pI 5)] [1024] [] tv ?_)
       refine DW.cv [] [] [] [(c5e4),(100000,ob0 (Cs []))] (Conv.ads [(.o 1048 0,100000,6,elems Ca Dk [])]) ?_
       obtain rfl := sj hm
       exact DW.ret (Am [Cs []] [100000] (.tup [.agg [ow 0 0,pI 0],pI 0,pI 5]))
      ·intro h31 hm
       refine Sk ?_
       refine DW.done ?_
       show DW _ _ _ _ _
       refine RD hnt (nn 3 []) [49] [(9,pI (w64 (((k1 : Nat) : Int) + 1)))] [] [] tv ?_
       exact jD () ⟨hlt1,hm⟩ (Conv.tp [(9,pI (w64 (((k1 : Nat) : Int) + 1)))] [] (by kernel_rfl) (.cons rfl (.of_eq (congrArg pI (Da hlt1 hc1))) .nil) .nil)
    ·intro h29
     have hge1 : ¬ k1 < p0.nodes.length := by have := of_decide_eq_false h29; omega
     have hm := he1 hge1
     unfold AaB at hm
     refine DW.exit ?_
     refine Ap ?_
     refine Au ?_
     refine Aj ?_
     show DW _ _ _ _ _
     obtain ⟨r32,hr32,hm⟩ := bo hm
     refine Sq (Sq ?_)
     refine Jn (ι := Bool) (fun (y6 : Bool) => Ae [(1,pI p1),(2,pS p2),(3,rr 1024),(6,rr 1048),(65,pB y6)] [(c5e3 p0),(c5e2)]) (fun y6 => (Nt p0 p1 p2) y6 = some RES) ?_ ?_
     ·intro y6 hm
      unfold Nt at hm
      refine Aq hm ?_ ?_
      ·intro h35 hm
       refine Sq (RD hnt (nn 4 []) [1,2,3,65] [(7,pI 0),(8,pI 7)] [1024] [] tv ?_)
       refine DW.cv [] [] [] [(c5e4),(100000,ob0 (Cs []))] (Conv.ads [(.o 1048 0,100000,6,elems Ca Dk [])]) ?_
       obtain rfl := sj hm
       exact DW.ret (Am [Cs []] [100000] (.tup [.agg [ow 0 0,pI 0],pI 0,pI 7]))
      ·intro h35 hm
       refine Sk ?_
       obtain ⟨r36,hr36,hm⟩ := bo hm
       refine Sq (RD hnt (.no :: o14 [] true r36 :: nn 2 []) [65] [(10,rr 1080)] [] [(1080,bx [ow 1544 r36.nodes.length,pI r36.next]),(1544,ob0 (Cs r36.nodes))] (an (AeI p0 r36 hr36) tv) ?_)
       obtain ⟨g37,hm⟩ := go1 hm
       refine Sq (RN hnt (nn 11 []) [(3,rr 1024),(6,rr 1048),(10,rr 1080)] [(c5e3 p0),(c5e2),(1080,bx [ow 1544 (r36.nodes ++ [(c5e1 p0 p1 p2)]).length,pI r36.next]),(1544,ob0 (Cs (r36.nodes ++ [(c5e1 p0 p1 p2)])))] [] [(1080,.box [ow 1544 (r36.nodes.length + 1),pI r36.next]),(1544,.row 6 (r36.nodes.length + 1) (Em r36.nodes.length (Uq r36.nodes) (cut 6 [vi p0.next,vi p1,vs p2,vi 0,vi 0,vi 0])))] (an (by omega : (r36.nodes.length + 1) * 56 ≤ 140737488355328) tv) (by kernel_rfl) .nil (.cons rfl (.box (.cons (MLe.ownLen (enc := Ca) (d := Dk) (f := (Em r36.nodes.length (Uq r36.nodes) (cut 6 [vi p0.next,vi p1,vs p2,vi 0,vi 0,vi 0]))) (RowIs.cat RowIs.elems (RowIs.lit (enc := Ca) (d := Dk) (n := 1) (f := (cut 6 [vi p0.next,vi p1,vs p2,vi 0,vi 0,vi 0])) [(c5e1 p0 p1 p2)] rfl (fun | 0,_ => rfl | n + 1,h => absurd h (by omega))))) (.cons .rfl .nil))) (.cons rfl (BLe.typed (RowIs.cat RowIs.elems (RowIs.lit (enc := Ca) (d := Dk) (n := 1) (f := (cut 6 [vi p0.next,vi p1,vs p2,vi 0,vi 0,vi 0])) [(c5e1 p0 p1 p2)] rfl (fun | 0,_ => rfl | n + 1,h => absurd h (by omega))))) .nil)) ?_)
       refine Sq (RD hnt (nn 5 []) [] [] [] [(1080,bx [ow 1544 (r36.nodes ++ [(c5e1 p0 p1 p2)]).length,pI (w64 (r36.next + 1))])] tv ?_)
       refine Sq (RD hnt (nn 6 []) [3,10] [(7,pI p0.next),(8,pI 0)] [1024,1080] [(1048,bx [ow 1544 (r36.nodes ++ [(c5e1 p0 p1 p2)]).length,pI (w64 (r36.next + 1))])] tv ?_)
       obtain rfl := sj hm
       exact DW.ret (Am [Cs (r36.nodes ++ [(c5e1 p0 p1 p2)])] [1544] (.tup [.agg [ow 0 (r36.nodes ++ [(c5e1 p0 p1 p2)]).length,pI (w64 (r36.next + 1))],pI p0.next,pI 0]))
     ·rcases bt (decide (r32 ≥ 8)) with h33 | h33
      ·replace hm := Bc h33 hm
       refine RD hnt (nn 2 (o12 [] true r32 :: nn 2 (sk 4 (pT :: .no :: sk 3 (pT :: []))))) [9,29] [(65,pB true)] [] [] (an (Ua p0 p1 r32 hr32) (an5 h33 (an4 tt tv))) ?_
       exact jD true hm Conv.eqK
      ·replace hm := Bd h33 hm
       rcases bt (decide (((p0.nodes.length : Nat) : Int) ≥ 64)) with h34 | h34
       ·replace hm := Bc h34 hm
        refine RD hnt (nn 2 (o12 [] true r32 :: nn 6 (pF :: .no :: sk 3 (pT :: [])))) [9,29] [(65,pB true)] [] [] (an (Ua p0 p1 r32 hr32) (an5 h33 (an4 h34 tv))) ?_
        exact jD true hm Conv.eqK
       ·replace hm := Bd h34 hm
        refine RD hnt (nn 2 (o12 [] true r32 :: nn 6 (pF :: nn 4 (pF :: [])))) [9,29] [(65,pB (decide (p0.next > 2147483647)))] [] [] (an (Ua p0 p1 r32 hr32) (an5 h33 (an4 h34 tv))) ?_
        exact jD (decide (p0.next > 2147483647)) hm Conv.eqK
 ·rcases bt (!r1) with h2 | h2
  ·replace hm := Bc h2 hm
   refine RD hnt (.no :: o6 [] true r1 :: nn 2 (sk 3 (pT :: []))) [] [(18,pB true)] [] [] (an (Mr p0 r1 hr1) (an4 h2 tv)) ?_
   exact jD true hm Conv.eqK
  ·replace hm := Bd h2 hm
   obtain ⟨r3,hr3,hm⟩ := bo hm
   refine RD hnt (.no :: o6 [] true r1 :: nn 3 (o8 [] true r3 :: .no :: pF :: [])) [] [(18,pB (!r3))] [] [] (an (Mr p0 r1 hr1) (an2 h2 (an (Zl p2 r3 hr3) (an2 h2 tv)))) ?_
   exact jD (!r3) hm Conv.eqK
abbrev o5 (ks : List Nat) (b : Bool) (RES : Ab × Int × Int) (sm : List Nat := []) : Orc := .call 43 ks b (.tup [.agg [ow 0 RES.1.nodes.length,pI RES.1.next],pI RES.2.1,pI RES.2.2]) [] [Cs RES.1.nodes] sm

abbrev c18e1 : Nat × Obj := (1016,bx [pI 0,pI 0,pI 0,pI 0,pI 0,pI 0,pI 0,.p (.sl .nil 0 0 (fun _ => [])),.p (.sl .nil 0 0 (fun _ => [])),pI 0,pI 0,pI 0,pI 0,pI 0,pI 0,pB false,.p (.sl .nil 0 0 (fun _ => []))])
theorem Zt (p0 : Ao) (RES : Ao) (hm : Sl p0 = some RES) : Spec Tryz.prog 55 [.p (.agg (Dv p0))] [] (.agg [pI RES.pidsMax,pI RES.weight,pI RES.quota,pI RES.period,pI RES.burst,pI RES.clampMin,pI RES.clampMax,ow 0 RES.cpus.length,ow 1 RES.mems.length,pI RES.partition,pI RES.memory.min,pI RES.memory.low,pI RES.memory.high,pI RES.memory.max,pI RES.memory.swapMax,pB RES.memory.together,ow 2 RES.devices.length]) [] [roI RES.cpus,roI RES.mems,Af RES.devices] := by
 unfold Sl at hm
 refine SO Tryz.func55 rfl rfl [(0,.p (.agg (Dv p0)))] [] ?_
 intro cx hnt
 refine Sq (RK hnt (nn 2 []) [(1,rr 1008),(2,rr 1016)] [(1008,bx (pm (Dv p0))),(c18e1)] tv ?_)
 obtain ⟨g1,g2,hm⟩ := go2 hm
 refine Sq (RN hnt (nn 10 []) [(1,rr 1008),(2,rr 1016)] [(1008,bx [pI p0.pidsMax,pI p0.weight,pI p0.quota,pI p0.period,pI p0.burst,pI p0.clampMin,pI p0.clampMax,ow 1040 p0.cpus.length,ow 1064 p0.mems.length,pI p0.partition,pI p0.memory.min,pI p0.memory.low,pI p0.memory.high,pI p0.memory.max,pI p0.memory.swapMax,pB p0.memory.together,.p (Co p0.devices)]),(c18e1),(1040,ob0 (roI p0.cpus)),(1064,ob0 (roI p0.mems))] [] [(1040,.row 1 p0.cpus.length (elI p0.cpus)),(1064,.row 1 p0.mems.length (elI p0.mems))] (an (by omega : p0.cpus.length * 8 ≤ 140737488355328) (an (by omega : p0.mems.length * 8 ≤ 140737488355328) tv)) (by kernel_rfl) .nil (.cons rfl (BLe.typed RowIs.elems) (.cons rfl (BLe.typed RowIs.elems) .nil)) ?_)
 obtain ⟨g3,hm⟩ := go1 hm
 refine Sq (RN hnt (nn 5 []) [(1,rr 1008),(2,rr 1016)] [(1008,bx [pI p0.pidsMax,pI p0.weight,pI p0.quota,pI p0.period,pI p0.burst,pI p0.clampMin,pI p0.clampMax,ow 1040 p0.cpus.length,ow 1064 p0.mems.length,pI p0.partition,pI p0.memory.min,pI p0.memory.low,pI p0.memory.high,pI p0.memory.max,pI p0.memory.swapMax,pB p0.memory.together,ow 1104 p0.devices.length]),(c18e1),(1040,ob0 (roI p0.cpus)),(1064,ob0 (roI p0.mems)),(1104,ob0 (Af p0.devices))] [] [(1104,.row 7 p0.devices.length (Rp p0.devices))] (an (by omega : p0.devices.length * 56 ≤ 140737488355328) tv) (by kernel_rfl) .nil (.cons rfl (BLe.typed RowIs.elems) .nil) ?_)
 refine Sq (RD hnt (nn 2 []) [1] [] [1008] [(1016,bx [pI p0.pidsMax,pI p0.weight,pI p0.quota,pI p0.period,pI p0.burst,pI p0.clampMin,pI p0.clampMax,ow 1040 p0.cpus.length,ow 1064 p0.mems.length,pI p0.partition,pI p0.memory.min,pI p0.memory.low,pI p0.memory.high,pI p0.memory.max,pI p0.memory.swapMax,pB p0.memory.together,ow 1104 p0.devices.length])] tv ?_)
 obtain rfl := sj hm
 exact DW.ret (Am [roI p0.cpus,roI p0.mems,Af p0.devices] [1040,1064,1104] (.agg [pI p0.pidsMax,pI p0.weight,pI p0.quota,pI p0.period,pI p0.burst,pI p0.clampMin,pI p0.clampMax,ow 0 p0.cpus.length,ow 1 p0.mems.length,pI p0.partition,pI p0.memory.min,pI p0.memory.low,pI p0.memory.high,pI p0.memory.max,pI p0.memory.swapMax,pB p0.memory.together,ow 2 p0.devices.length]))
abbrev o18 (ks : List Nat) (b : Bool) (RES : Ao) (sm : List Nat := []) : Orc := .call 55 ks b (.agg [pI RES.pidsMax,pI RES.weight,pI RES.quota,pI RES.period,pI RES.burst,pI RES.clampMin,pI RES.clampMax,ow 0 RES.cpus.length,ow 1 RES.mems.length,pI RES.partition,pI RES.memory.min,pI RES.memory.low,pI RES.memory.high,pI RES.memory.max,pI RES.memory.swapMax,pB RES.memory.together,ow 2 RES.devices.length]) [] [roI RES.cpus,roI RES.mems,Af RES.devices] sm

theorem Ry (RES : Hm) (hm : Mj = some RES) : Spec Tryz.prog 100 [] [] (.p (.agg (Kk RES))) [] [] := by
 unfold Mj at hm
 refine SO Tryz.func100 rfl rfl [] [] ?_
 intro cx hnt
 refine Sq (RK hnt (.no :: []) [(0,rr 1000)] [(1000,bx [pI 0,pI 0,pI 0,pI 0,pI 0,pB false])] tv ?_)
 refine Sq (RK hnt (nn 2 []) [(0,rr 1000)] [(1000,bx [pI 0,pI 0,pI 4611686018427387904,pI 4611686018427387904,pI 4611686018427387904,pB false])] tv ?_)
 obtain rfl := sj hm
 exact DW.ret (Am [] [] (.p (.agg [vi 0,vi 0,vi 4611686018427387904,vi 4611686018427387904,vi 4611686018427387904,vb false])))
abbrev o20 (ks : List Nat) (b : Bool) (RES : Hm) (sm : List Nat := []) : Orc := .call 100 ks b (.p (.agg (Kk RES))) [] [] sm

theorem Qx (RES : List As) (hm : Lm = some RES) : Spec Tryz.prog 101 [] [] (ow 0 RES.length) [] [Af RES] := by
 unfold Lm at hm
 refine SO Tryz.func101 rfl rfl [] [] ?_
 intro cx hnt
 refine Sq (RK hnt (.no :: []) [] [] tv ?_)
 refine Sq (RK hnt (.no :: []) [(0,.p (.sl .nil 0 0 (fun _ => [])))] [] tv ?_)
 refine DW.cv [] [(0,ow 100000 0)] [] [(100000,ob0 (Af []))] (Conv.ads [(.s 0,100000,7,elems Db Lo [])]) ?_
 obtain rfl := sj hm
 exact DW.ret (Am [Af []] [100000] (ow 0 0))
abbrev o21 (ks : List Nat) (b : Bool) (RES : List As) (sm : List Nat := []) : Orc := .call 101 ks b (ow 0 RES.length) [] [Af RES] sm

theorem Mk (RES : Ao) (hm : Lk = some RES) : Spec Tryz.prog 48 [] [] (.agg [pI RES.pidsMax,pI RES.weight,pI RES.quota,pI RES.period,pI RES.burst,pI RES.clampMin,pI RES.clampMax,ow 0 RES.cpus.length,ow 1 RES.mems.length,pI RES.partition,pI RES.memory.min,pI RES.memory.low,pI RES.memory.high,pI RES.memory.max,pI RES.memory.swapMax,pB RES.memory.together,ow 2 RES.devices.length]) [] [roI RES.cpus,roI RES.mems,Af RES.devices] := by
 unfold Lk at hm
 refine SO Tryz.func48 rfl rfl [] [] ?_
 intro cx hnt
 refine Sq (RK hnt (.no :: []) [(0,rr 1000)] [(1000,bx [pI 0,pI 0,pI 0,pI 0,pI 0,pI 0,pI 0,.p (.sl .nil 0 0 (fun _ => [])),.p (.sl .nil 0 0 (fun _ => [])),pI 0,pI 0,pI 0,pI 0,pI 0,pI 0,pB false,.p (.sl .nil 0 0 (fun _ => []))])] tv ?_)
 obtain ⟨r1,hr1,hm⟩ := bo hm
 obtain ⟨r2,hr2,hm⟩ := bo hm
 refine Sq (RK hnt (o20 [] true r1 :: o21 [] true r2 :: nn 2 []) [(0,rr 1000)] [(1000,bx [pI 4611686018427387904,pI 100,pI 4611686018427387904,pI 100000,pI 0,pI 0,pI 10000,.p (.sl .nil 0 0 (fun _ => [])),.p (.sl .nil 0 0 (fun _ => [])),pI 0,pI r1.min,pI r1.low,pI r1.high,pI r1.max,pI r1.swapMax,pB r1.together,ow 1016 r2.length]),(1016,ob0 (Af r2))] (an (Ry r1 hr1) (an (Qx r2 hr2) tv)) ?_)
 refine DW.cv [] [] [] [(1000,bx [pI 4611686018427387904,pI 100,pI 4611686018427387904,pI 100000,pI 0,pI 0,pI 10000,ow 100000 0,ow 100001 0,pI 0,pI r1.min,pI r1.low,pI r1.high,pI r1.max,pI r1.swapMax,pB r1.together,ow 1016 r2.length]),(100000,ob0 (roI [])),(100001,ob0 (roI []))] (Conv.ads [(.o 1000 7,100000,1,elems Az 0 []),(.o 1000 8,100001,1,elems Az 0 [])]) ?_
 obtain rfl := sj hm
 exact DW.ret (Am [roI [],roI [],Af r2] [100000,100001,1016] (.agg [pI 4611686018427387904,pI 100,pI 4611686018427387904,pI 100000,pI 0,pI 0,pI 10000,ow 0 0,ow 1 0,pI 0,pI r1.min,pI r1.low,pI r1.high,pI r1.max,pI r1.swapMax,pB r1.together,ow 2 r2.length]))
abbrev o19 (ks : List Nat) (b : Bool) (RES : Ao) (sm : List Nat := []) : Orc := .call 48 ks b (.agg [pI RES.pidsMax,pI RES.weight,pI RES.quota,pI RES.period,pI RES.burst,pI RES.clampMin,pI RES.clampMax,ow 0 RES.cpus.length,ow 1 RES.mems.length,pI RES.partition,pI RES.memory.min,pI RES.memory.low,pI RES.memory.high,pI RES.memory.max,pI RES.memory.swapMax,pB RES.memory.together,ow 2 RES.devices.length]) [] [roI RES.cpus,roI RES.mems,Af RES.devices] sm

abbrev c17e1 : Nat × Obj := (1032,bx [pI 0,pI 0,pI 0,pI 0,pI 0,pI 0,pI 0,.p (.sl .nil 0 0 (fun _ => [])),.p (.sl .nil 0 0 (fun _ => [])),pI 0,pI 0,pI 0,pI 0,pI 0,pI 0,pB false,.p (.sl .nil 0 0 (fun _ => []))])
theorem Aen (p0 : List Ac) (p1 : Int) (RES : Ao) (hm : Ln p0 p1 = some RES) : Spec Tryz.prog 17 [.p (Ax p0),pI p1] [] (.agg [pI RES.pidsMax,pI RES.weight,pI RES.quota,pI RES.period,pI RES.burst,pI RES.clampMin,pI RES.clampMax,ow 0 RES.cpus.length,ow 1 RES.mems.length,pI RES.partition,pI RES.memory.min,pI RES.memory.low,pI RES.memory.high,pI RES.memory.max,pI RES.memory.swapMax,pB RES.memory.together,ow 2 RES.devices.length]) [] [roI RES.cpus,roI RES.mems,Af RES.devices] := by
 unfold Ln at hm
 refine SO Tryz.func17 rfl rfl [(0,.p (Ax p0)),(1,pI p1)] [] ?_
 intro cx hnt
 refine Sq (RD hnt (.no :: []) [] [(4,rr 1032)] [] [(c17e1)] tv ?_)
 refine Sq (Sq (RD hnt (.no :: []) [] [(5,pI 0)] [] [] tv ?_))
 refine Bk ?_
 obtain ⟨hc1,hm⟩ := go1 hm
 refine DW.rangeO (fun (k1 : Nat) (s1 : Unit) => Ae [(0,.p (Ax p0)),(1,pI p1),(4,rr 1032),(5,pI ((k1 : Nat) : Int))] [(c17e1)]) Be hm Conv.eqK ?_
 intro k1 s1 n1 hk1 hs1 he1
 refine Sq (Sq (RD hnt (nn 4 []) [] [(9,pB (decide (((k1 : Nat) : Int) < ((p0.length : Nat) : Int))))] [] [] tv ?_))
 refine Ej (decide (((k1 : Nat) : Int) < ((p0.length : Nat) : Int))) ?_ ?_
 ·intro h13
  have hlt1 : k1 < p0.length := by have := of_decide_eq_true h13; omega
  have hm := hs1 hlt1
  unfold Ug at hm
  refine Sk ?_
  refine Sq (Bk ?_)
  refine Sq (RD hnt (nn 7 []) [9] [(18,pB ((p0.getD k1 (default : Ac)).group == p1))] [] [] (an (nn0 k1) (an (ltc hlt1) tv)) ?_)
  refine Aq hm ?_ ?_
  ·intro h14 hm
   obtain ⟨r15,hr15,hm⟩ := bo hm
   refine Sq (RK hnt (nn 5 (o18 [] true r15 :: .no :: [])) [(4,rr 1032)] [(1032,bx [pI r15.pidsMax,pI r15.weight,pI r15.quota,pI r15.period,pI r15.burst,pI r15.clampMin,pI r15.clampMax,ow 1192 r15.cpus.length,ow 1193 r15.mems.length,pI r15.partition,pI r15.memory.min,pI r15.memory.low,pI r15.memory.high,pI r15.memory.max,pI r15.memory.swapMax,pB r15.memory.together,ow 1194 r15.devices.length]),(1192,ob0 (roI r15.cpus)),(1193,ob0 (roI r15.mems)),(1194,ob0 (Af r15.devices))] (an (nn0 k1) (an (ltc hlt1) (an (Zt (p0.getD k1 (default : Ac)).settings r15 hr15) tv))) ?_)
   obtain rfl := sj hm
   exact DW.ret (Am [roI r15.cpus,roI r15.mems,Af r15.devices] [1192,1193,1194] (.agg [pI r15.pidsMax,pI r15.weight,pI r15.quota,pI r15.period,pI r15.burst,pI r15.clampMin,pI r15.clampMax,ow 0 r15.cpus.length,ow 1 r15.mems.length,pI r15.partition,pI r15.memory.min,pI r15.memory.low,pI r15.memory.high,pI r15.memory.max,pI r15.memory.swapMax,pB r15.memory.together,ow 2 r15.devices.length]))
  ·intro h14 hm
   refine Sk ?_
   refine DW.done ?_
   show DW _ _ _ _ _
   refine RD hnt (nn 3 []) [18] [(5,pI (w64 (((k1 : Nat) : Int) + 1)))] [] [] tv ?_
   exact jD () ⟨hlt1,hm⟩ (Conv.tp [(5,pI (w64 (((k1 : Nat) : Int) + 1)))] [] (by kernel_rfl) (.cons rfl (.of_eq (congrArg pI (Da hlt1 hc1))) .nil) .nil)
 ·intro h13
  have hge1 : ¬ k1 < p0.length := by have := of_decide_eq_false h13; omega
  have hm := he1 hge1
  unfold Zj at hm
  refine DW.exit ?_
  refine Ap ?_
  refine Au ?_
  refine Aj ?_
  show DW _ _ _ _ _
  obtain ⟨r16,hr16,hm⟩ := bo hm
  refine Sq (RK hnt (o19 [] true r16 :: .no :: []) [(4,rr 1032)] [(1032,bx [pI r16.pidsMax,pI r16.weight,pI r16.quota,pI r16.period,pI r16.burst,pI r16.clampMin,pI r16.clampMax,ow 1200 r16.cpus.length,ow 1201 r16.mems.length,pI r16.partition,pI r16.memory.min,pI r16.memory.low,pI r16.memory.high,pI r16.memory.max,pI r16.memory.swapMax,pB r16.memory.together,ow 1202 r16.devices.length]),(1200,ob0 (roI r16.cpus)),(1201,ob0 (roI r16.mems)),(1202,ob0 (Af r16.devices))] (an (Mk r16 hr16) tv) ?_)
  obtain rfl := sj hm
  exact DW.ret (Am [roI r16.cpus,roI r16.mems,Af r16.devices] [1200,1201,1202] (.agg [pI r16.pidsMax,pI r16.weight,pI r16.quota,pI r16.period,pI r16.burst,pI r16.clampMin,pI r16.clampMax,ow 0 r16.cpus.length,ow 1 r16.mems.length,pI r16.partition,pI r16.memory.min,pI r16.memory.low,pI r16.memory.high,pI r16.memory.max,pI r16.memory.swapMax,pB r16.memory.together,ow 2 r16.devices.length]))
abbrev o17 (ks : List Nat) (b : Bool) (RES : Ao) (sm : List Nat := []) : Orc := .call 17 ks b (.agg [pI RES.pidsMax,pI RES.weight,pI RES.quota,pI RES.period,pI RES.burst,pI RES.clampMin,pI RES.clampMax,ow 0 RES.cpus.length,ow 1 RES.mems.length,pI RES.partition,pI RES.memory.min,pI RES.memory.low,pI RES.memory.high,pI RES.memory.max,pI RES.memory.swapMax,pB RES.memory.together,ow 2 RES.devices.length]) [] [roI RES.cpus,roI RES.mems,Af RES.devices] sm

abbrev c22e1 : Nat × Obj := (1032,bx [pI 0,pI 0,pI 0,pI 0,pI 0,pI 0,pI 0,.p (.sl .nil 0 0 (fun _ => [])),.p (.sl .nil 0 0 (fun _ => [])),pI 0,pI 0,pI 0,pI 0,pI 0,pI 0,pB false,.p (.sl .nil 0 0 (fun _ => []))])
theorem AdU (p0 : List Ac) (p1 : Int) (RES : Ao) (hm : Ln p0 p1 = some RES) : Spec Tryz.prog 17 [.p (Ax p0),pI p1] [] (.p (.agg (Dv RES))) [] [] := by
 unfold Ln at hm
 refine SO Tryz.func17 rfl rfl [(0,.p (Ax p0)),(1,pI p1)] [] ?_
 intro cx hnt
 refine Sq (RD hnt (.no :: []) [] [(4,rr 1032)] [] [(c22e1)] tv ?_)
 refine Sq (Sq (RD hnt (.no :: []) [] [(5,pI 0)] [] [] tv ?_))
 refine Bk ?_
 obtain ⟨hc1,hm⟩ := go1 hm
 refine DW.rangeO (fun (k1 : Nat) (s1 : Unit) => Ae [(0,.p (Ax p0)),(1,pI p1),(4,rr 1032),(5,pI ((k1 : Nat) : Int))] [(c22e1)]) Be hm Conv.eqK ?_
 intro k1 s1 n1 hk1 hs1 he1
 refine Sq (Sq (RD hnt (nn 4 []) [] [(9,pB (decide (((k1 : Nat) : Int) < ((p0.length : Nat) : Int))))] [] [] tv ?_))
 refine Ej (decide (((k1 : Nat) : Int) < ((p0.length : Nat) : Int))) ?_ ?_
 ·intro h13
  have hlt1 : k1 < p0.length := by have := of_decide_eq_true h13; omega
  have hm := hs1 hlt1
  unfold Ug at hm
  refine Sk ?_
  refine Sq (Bk ?_)
  refine Sq (RD hnt (nn 7 []) [9] [(18,pB ((p0.getD k1 (default : Ac)).group == p1))] [] [] (an (nn0 k1) (an (ltc hlt1) tv)) ?_)
  refine Aq hm ?_ ?_
  ·intro h14 hm
   obtain ⟨r15,hr15,hm⟩ := bo hm
   refine Sq (RK hnt (nn 5 (o18 [] true r15 :: .no :: [])) [(4,rr 1032)] [(1032,bx [pI r15.pidsMax,pI r15.weight,pI r15.quota,pI r15.period,pI r15.burst,pI r15.clampMin,pI r15.clampMax,ow 1192 r15.cpus.length,ow 1193 r15.mems.length,pI r15.partition,pI r15.memory.min,pI r15.memory.low,pI r15.memory.high,pI r15.memory.max,pI r15.memory.swapMax,pB r15.memory.together,ow 1194 r15.devices.length]),(1192,ob0 (roI r15.cpus)),(1193,ob0 (roI r15.mems)),(1194,ob0 (Af r15.devices))] (an (nn0 k1) (an (ltc hlt1) (an (Zt (p0.getD k1 (default : Ac)).settings r15 hr15) tv))) ?_)
   obtain rfl := sj hm
   exact DW.ret (Am [] [] (.p (.agg (Dv r15))))
  ·intro h14 hm
   refine Sk ?_
   refine DW.done ?_
   show DW _ _ _ _ _
   refine RD hnt (nn 3 []) [18] [(5,pI (w64 (((k1 : Nat) : Int) + 1)))] [] [] tv ?_
   exact jD () ⟨hlt1,hm⟩ (Conv.tp [(5,pI (w64 (((k1 : Nat) : Int) + 1)))] [] (by kernel_rfl) (.cons rfl (.of_eq (congrArg pI (Da hlt1 hc1))) .nil) .nil)
 ·intro h13
  have hge1 : ¬ k1 < p0.length := by have := of_decide_eq_false h13; omega
  have hm := he1 hge1
  unfold Zj at hm
  refine DW.exit ?_
  refine Ap ?_
  refine Au ?_
  refine Aj ?_
  show DW _ _ _ _ _
  obtain ⟨r16,hr16,hm⟩ := bo hm
  refine Sq (RK hnt (o19 [] true r16 :: .no :: []) [(4,rr 1032)] [(1032,bx [pI r16.pidsMax,pI r16.weight,pI r16.quota,pI r16.period,pI r16.burst,pI r16.clampMin,pI r16.clampMax,ow 1200 r16.cpus.length,ow 1201 r16.mems.length,pI r16.partition,pI r16.memory.min,pI r16.memory.low,pI r16.memory.high,pI r16.memory.max,pI r16.memory.swapMax,pB r16.memory.together,ow 1202 r16.devices.length]),(1200,ob0 (roI r16.cpus)),(1201,ob0 (roI r16.mems)),(1202,ob0 (Af r16.devices))] (an (Mk r16 hr16) tv) ?_)
  obtain rfl := sj hm
  exact DW.ret (Am [] [] (.p (.agg (Dv r16))))
abbrev o22 (ks : List Nat) (b : Bool) (RES : Ao) (sm : List Nat := []) : Orc := .call 17 ks b (.p (.agg (Dv RES))) [] [] sm

abbrev c16e1 (p0 : Ab) (k1 : Nat) (r20 : Ao) := ({ group := (p0.nodes.getD k1 (default : Ah)).id,settings := r20 } : Ac)
abbrev c16e2 (p0 : Ab) (k1 : Nat) := (p0.nodes.getD k1 (default : Ah))
theorem AcB (p0 : Ab) (p1 : List Ac) (RES : List Ac) (hm : Sv p0 p1 = some RES) : Spec Tryz.prog 86 [.p (.agg (Ak p0)),.p (Ax p1)] [] (ow 0 RES.length) [] [Ep RES] := by
 unfold Sv at hm
 refine SO Tryz.func86 rfl rfl [(0,.p (.agg (Ak p0))),(1,.p (Ax p1))] [] ?_
 intro cx hnt
 refine Sq (RD hnt (nn 2 []) [0] [(2,rr 1016)] [] [(1016,bx (pm (Ak p0)))] tv ?_)
 obtain ⟨r1,hr1,hm⟩ := bo hm
 refine Sq (Sq (RD hnt (.no :: o6 [] true r1 :: .no :: []) [] [(9,pB (!r1))] [] [] (an (Mr p0 r1 hr1) tv) ?_))
 refine Aq hm ?_ ?_
 ·intro h2 hm
  refine Sq (RK hnt (.no :: []) [(4,.p (.sl .nil 0 0 (fun _ => [])))] [] tv ?_)
  refine DW.cv [] [(4,ow 100000 0)] [] [(100000,ob0 (Ep []))] (Conv.ads [(.s 4,100000,18,elems Gl Be [])]) ?_
  obtain rfl := sj hm
  exact DW.ret (Am [Ep []] [100000] (ow 0 0))
 ·intro h2 hm
  refine Sk ?_
  refine Sq (RD hnt (.no :: []) [9] [(5,.p (.sl .nil 0 0 (fun _ => [])))] [] [] tv ?_)
  refine Sq (Sq (RD hnt (.no :: []) [] [(6,pI 0)] [] [] tv ?_))
  refine Bk ?_
  obtain ⟨hc1,hm⟩ := go1 hm
  refine DW.rangeO (fun (k1 : Nat) (s1 : List Ac) => Ae [(1,.p (Ax p1)),(2,rr 1016),(5,ow 1272 s1.length),(6,pI ((k1 : Nat) : Int))] [(1016,bx (pm (Ak p0))),(1272,ob0 (Ep s1))]) Dk hm (Conv.ads [(.s 5,1272,18,elems Gl Be [])]) ?_
  intro k1 s1 n1 hk1 hs1 he1
  refine Sq (Sq (RD hnt (nn 5 []) [] [(14,pB (decide (((k1 : Nat) : Int) < ((p0.nodes.length : Nat) : Int))))] [] [] tv ?_))
  refine Ej (decide (((k1 : Nat) : Int) < ((p0.nodes.length : Nat) : Int))) ?_ ?_
  ·intro h18
   have hlt1 : k1 < p0.nodes.length := by have := of_decide_eq_true h18; omega
   have hm := hs1 hlt1
   unfold Tv at hm
   refine Sk ?_
   refine Sq (Bk ?_)
   obtain ⟨r20,hr20,hm⟩ := bo hm
   obtain ⟨g21,hm⟩ := go1 hm
   refine RN hnt (nn 14 (o22 [] true r20 :: nn 4 [])) [(1,.p (Ax p1)),(2,rr 1016),(5,ow 1272 (s1 ++ [(c16e1 p0 k1 r20)]).length),(6,pI ((k1 : Nat) : Int))] [(1016,bx (pm (Ak p0))),(1272,ob0 (Ep (s1 ++ [(c16e1 p0 k1 r20)])))] [(5,ow 1272 (s1.length + 1))] [(1272,.row 18 (s1.length + 1) (Em s1.length (Xd s1) (cut 18 [vi (c16e2 p0 k1).id,vi r20.pidsMax,vi r20.weight,vi r20.quota,vi r20.period,vi r20.burst,vi r20.clampMin,vi r20.clampMax,slI r20.cpus,slI r20.mems,vi r20.partition,vi r20.memory.min,vi r20.memory.low,vi r20.memory.high,vi r20.memory.max,vi r20.memory.swapMax,vb r20.memory.together,Co r20.devices])))] (an (nn0 k1) (an (ltc hlt1) (an (nn0 k1) (an (ltc hlt1) (an (AdU p1 (c16e2 p0 k1).id r20 hr20) (an (by omega : (s1.length + 1) * 192 ≤ 140737488355328) tv)))))) (by kernel_rfl) (.cons rfl (MLe.ownLen (enc := Gl) (d := Be) (f := (Em s1.length (Xd s1) (cut 18 [vi (c16e2 p0 k1).id,vi r20.pidsMax,vi r20.weight,vi r20.quota,vi r20.period,vi r20.burst,vi r20.clampMin,vi r20.clampMax,slI r20.cpus,slI r20.mems,vi r20.partition,vi r20.memory.min,vi r20.memory.low,vi r20.memory.high,vi r20.memory.max,vi r20.memory.swapMax,vb r20.memory.together,Co r20.devices]))) (RowIs.cat RowIs.elems (RowIs.lit (enc := Gl) (d := Be) (n := 1) (f := (cut 18 [vi (c16e2 p0 k1).id,vi r20.pidsMax,vi r20.weight,vi r20.quota,vi r20.period,vi r20.burst,vi r20.clampMin,vi r20.clampMax,slI r20.cpus,slI r20.mems,vi r20.partition,vi r20.memory.min,vi r20.memory.low,vi r20.memory.high,vi r20.memory.max,vi r20.memory.swapMax,vb r20.memory.together,Co r20.devices])) [(c16e1 p0 k1 r20)] rfl (fun | 0,_ => rfl | n + 1,h => absurd h (by omega))))) .nil) (.cons rfl (BLe.typed (RowIs.cat RowIs.elems (RowIs.lit (enc := Gl) (d := Be) (n := 1) (f := (cut 18 [vi (c16e2 p0 k1).id,vi r20.pidsMax,vi r20.weight,vi r20.quota,vi r20.period,vi r20.burst,vi r20.clampMin,vi r20.clampMax,slI r20.cpus,slI r20.mems,vi r20.partition,vi r20.memory.min,vi r20.memory.low,vi r20.memory.high,vi r20.memory.max,vi r20.memory.swapMax,vb r20.memory.together,Co r20.devices])) [(c16e1 p0 k1 r20)] rfl (fun | 0,_ => rfl | n + 1,h => absurd h (by omega))))) .nil) ?_
   refine DW.done ?_
   show DW _ _ _ _ _
   refine RD hnt (nn 3 []) [] [(6,pI (w64 (((k1 : Nat) : Int) + 1)))] [] [] tv ?_
   exact jD (s1 ++ [(c16e1 p0 k1 r20)]) ⟨hlt1,hm⟩ (Conv.tp [(6,pI (w64 (((k1 : Nat) : Int) + 1)))] [] (by kernel_rfl) (.cons rfl (.of_eq (congrArg pI (Da hlt1 hc1))) .nil) .nil)
  ·intro h18
   have hge1 : ¬ k1 < p0.nodes.length := by have := of_decide_eq_false h18; omega
   have hm := he1 hge1
   unfold Pz at hm
   refine DW.exit ?_
   refine Ap ?_
   refine Au ?_
   refine Aj ?_
   show DW _ _ _ _ _
   refine Sq (RK hnt (nn 2 []) [(4,ow 1272 s1.length)] [(1272,ob0 (Ep s1))] tv ?_)
   obtain rfl := sj hm
   exact DW.ret (Am [Ep s1] [1272] (ow 0 s1.length))
abbrev o16 (ks : List Nat) (b : Bool) (RES : List Ac) (sm : List Nat := []) : Orc := .call 86 ks b (ow 0 RES.length) [] [Ep RES] sm

theorem AeG (p0 : Ab) (RES : List Ac) (hm : Us p0 = some RES) : Spec Tryz.prog 45 [.p (.agg (Ak p0))] [] (ow 0 RES.length) [] [Ep RES] := by
 unfold Us at hm
 refine SO Tryz.func45 rfl rfl [(0,.p (.agg (Ak p0)))] [] ?_
 intro cx hnt
 refine Sq (RK hnt (nn 2 []) [(1,rr 1008)] [(1008,bx (pm (Ak p0)))] tv ?_)
 obtain ⟨r1,hr1,hm⟩ := bo hm
 refine Sq (RK hnt (.no :: o16 [] true r1 :: .no :: []) [(2,ow 1032 r1.length)] [(1032,ob0 (Ep r1))] (an (Spec.args (xs := [.p (.agg (Ak p0)),.p (.sl .nil 0 0 (fun _ => []))]) (AcB p0 [] r1 hr1) (.cons .rfl (.cons (.p PLe.nilL) .nil))) tv) ?_)
 obtain rfl := sj hm
 exact DW.ret (Am [Ep r1] [1032] (ow 0 r1.length))
abbrev o15 (ks : List Nat) (b : Bool) (RES : List Ac) (sm : List Nat := []) : Orc := .call 45 ks b (ow 0 RES.length) [] [Ep RES] sm

theorem Aep (p0 : Ah) (RES : Bool) (hm : Yr p0 = some RES) : Spec Tryz.prog 175 [.p (.agg (Ca p0))] [] (pB RES) [] [] := by
 unfold Yr at hm
 refine SO Tryz.func175 rfl rfl [(0,.p (.agg (Ca p0)))] [] ?_
 intro cx hnt
 refine Sq (RK hnt (nn 2 []) [(1,rr 1008)] [(1008,bx (pm (Ca p0)))] tv ?_)
 refine Sq (DW.regJ (sl2 := [(2,pB ((((p0.id == 1) && (p0.parent == 0)) && (En p0.name ByteArray.empty)) && (p0.kind == 0)))]) (ob2 := []) ?_ ?_)
 ·rcases bt (p0.id == 1) with h1 | h1
  ·rcases bt (p0.parent == 0) with h2 | h2
   ·rcases bt (En p0.name ByteArray.empty) with h3 | h3
    ·exact RT hnt (nn 7 (pT :: nn 4 (pT :: nn 4 (pT :: .no :: [])))) [(2,pB (p0.kind == 0))] (an4 h1 (an4 h2 (an4 h3 tv))) (by kernel_rfl) (.cons rfl (.of_eq (by rw [h1,h2,h3]; try rfl)) .nil)
    ·exact RT hnt (nn 7 (pT :: nn 4 (pT :: .no :: sk 3 (pF :: .no :: [])))) [(2,pB false)] (an4 h1 (an4 h2 (an4 h3 tv))) (by kernel_rfl) (.cons rfl (.of_eq (by rw [h1,h2,h3]; try rfl)) .nil)
   ·exact RT hnt (nn 7 (pT :: .no :: sk 3 (pF :: .no :: sk 3 (pF :: .no :: [])))) [(2,pB false)] (an4 h1 (an4 h2 (an4 ff tv))) (by kernel_rfl) (.cons rfl (.of_eq (by rw [h1,h2]; try rfl)) .nil)
  ·exact RT hnt (nn 4 (sk 3 (pF :: .no :: sk 3 (pF :: .no :: sk 3 (pF :: .no :: []))))) [(2,pB false)] (an4 h1 (an2 ff (an6 ff tv))) (by kernel_rfl) (.cons rfl (.of_eq (by rw [h1]; try rfl)) .nil)
 ·refine DW.ret ?_
  obtain rfl := sj hm
  exact Am [] [] (pB ((((p0.id == 1) && (p0.parent == 0)) && (En p0.name ByteArray.empty)) && (p0.kind == 0)))
abbrev o27 (ks : List Nat) (b : Bool) (RES : Bool) (sm : List Nat := []) : Orc := .call 175 ks b (pB RES) [] [] sm

theorem Adu (p0 : Int) (RES : Bool) (hm : Wd p0 = some RES) : Spec Tryz.prog 209 [.p (vk .u8 p0)] [] (pB RES) [] [] := by
 unfold Wd at hm
 refine SO Tryz.func209 rfl rfl [(0,.p (vk .u8 p0))] [] ?_
 intro cx hnt
 refine Sq (RD hnt (.no :: []) [] [] [] [] tv ?_)
 refine Sq (DW.regJ (sl2 := [(2,pB ((((((decide (p0 ≥ 97)) && (decide (p0 ≤ 122))) || ((decide (p0 ≥ 65)) && (decide (p0 ≤ 90)))) || ((decide (p0 ≥ 48)) && (decide (p0 ≤ 57)))) || (p0 == 95)) || (p0 == 45)))]) (ob2 := []) ?_ ?_)
 ·rcases bt (decide (p0 ≥ 97)) with h1 | h1
  ·rcases bt (decide (p0 ≤ 122)) with h2 | h2
   ·exact RT hnt (nn 5 (pT :: .no :: sk 6 (pT :: .no :: sk 6 (pT :: .no :: sk 2 (pT :: .no :: sk 2 (pT :: .no :: [])))))) [(2,pB true)] (an3 h1 (an5 h2 (an5 tt (an6 tt tv)))) (by kernel_rfl) (.cons rfl (.of_eq (by rw [h1,h2]; try rfl)) .nil)
   ·rcases bt (decide (p0 ≥ 65)) with h3 | h3
    ·rcases bt (decide (p0 ≤ 90)) with h4 | h4
     ·exact RT hnt (nn 5 (pT :: nn 6 (pT :: pF :: .no :: sk 6 (pT :: .no :: sk 2 (pT :: .no :: sk 2 (pT :: .no :: [])))))) [(2,pB true)] (an3 h1 (an3 h2 (an2 h3 (an h2 (an h3 (an h2 (an5 h4 (an6 tt tv)))))))) (by kernel_rfl) (.cons rfl (.of_eq (by rw [h1,h2,h3,h4]; try rfl)) .nil)
     ·rcases bt (decide (p0 ≥ 48)) with h5 | h5
      ·rcases bt (decide (p0 ≤ 57)) with h6 | h6
       ·exact RT hnt (nn 5 (pT :: nn 6 (pT :: pF :: nn 6 (pT :: pF :: .no :: sk 2 (pT :: .no :: sk 2 (pT :: .no :: [])))))) [(2,pB true)] (an3 h1 (an3 h2 (an2 h3 (an h2 (an h3 (an h2 (an3 h4 (an2 h5 (an h4 (an h5 (an h4 (an3 h6 (an3 tt tv))))))))))))) (by kernel_rfl) (.cons rfl (.of_eq (by rw [h1,h2,h3,h4,h5,h6]; try rfl)) .nil)
       ·rcases bt (p0 == 95) with h7 | h7
        ·exact RT hnt (nn 5 (pT :: nn 6 (pT :: pF :: nn 6 (pT :: pF :: nn 3 (pF :: .no :: sk 2 (pT :: .no :: [])))))) [(2,pB true)] (an3 h1 (an3 h2 (an2 h3 (an h2 (an h3 (an h2 (an3 h4 (an2 h5 (an h4 (an h5 (an h4 (an3 h6 (an3 h7 tv))))))))))))) (by kernel_rfl) (.cons rfl (.of_eq (by rw [h1,h2,h3,h4,h5,h6,h7]; try rfl)) .nil)
        ·exact RT hnt (nn 5 (pT :: nn 6 (pT :: pF :: nn 6 (pT :: pF :: nn 3 (pF :: nn 3 (pF :: .no :: [])))))) [(2,pB (p0 == 45))] (an3 h1 (an3 h2 (an2 h3 (an h2 (an h3 (an h2 (an3 h4 (an2 h5 (an h4 (an h5 (an h4 (an3 h6 (an3 h7 tv))))))))))))) (by kernel_rfl) (.cons rfl (.of_eq (by rw [h1,h2,h3,h4,h5,h6,h7]; try rfl)) .nil)
      ·rcases bt (p0 == 95) with h8 | h8
       ·exact RT hnt (nn 5 (pT :: nn 6 (pT :: pF :: nn 4 (sk 2 (pF :: pF :: nn 3 (pF :: .no :: sk 2 (pT :: .no :: []))))))) [(2,pB true)] (an3 h1 (an3 h2 (an2 h3 (an h2 (an h3 (an h2 (an3 h4 (an2 h5 (an h4 (an h5 (an h4 (an3 ff (an3 h8 tv))))))))))))) (by kernel_rfl) (.cons rfl (.of_eq (by rw [h1,h2,h3,h4,h5,h8]; try rfl)) .nil)
       ·exact RT hnt (nn 5 (pT :: nn 6 (pT :: pF :: nn 4 (sk 2 (pF :: pF :: nn 3 (pF :: nn 3 (pF :: .no :: []))))))) [(2,pB (p0 == 45))] (an3 h1 (an3 h2 (an2 h3 (an h2 (an h3 (an h2 (an3 h4 (an2 h5 (an h4 (an h5 (an h4 (an3 ff (an3 h8 tv))))))))))))) (by kernel_rfl) (.cons rfl (.of_eq (by rw [h1,h2,h3,h4,h5,h8]; try rfl)) .nil)
    ·rcases bt (decide (p0 ≥ 48)) with h9 | h9
     ·rcases bt (decide (p0 ≤ 57)) with h10 | h10
      ·exact RT hnt (nn 5 (pT :: nn 4 (sk 2 (pF :: pF :: nn 6 (pT :: pF :: .no :: sk 2 (pT :: .no :: sk 2 (pT :: .no :: []))))))) [(2,pB true)] (an3 h1 (an3 h2 (an2 h3 (an h2 (an h3 (an h2 (an3 ff (an2 h9 (an ff (an h9 (an ff (an3 h10 (an3 tt tv))))))))))))) (by kernel_rfl) (.cons rfl (.of_eq (by rw [h1,h2,h3,h9,h10]; try rfl)) .nil)
      ·rcases bt (p0 == 95) with h11 | h11
       ·exact RT hnt (nn 5 (pT :: nn 4 (sk 2 (pF :: pF :: nn 6 (pT :: pF :: nn 3 (pF :: .no :: sk 2 (pT :: .no :: []))))))) [(2,pB true)] (an3 h1 (an3 h2 (an2 h3 (an h2 (an h3 (an h2 (an3 ff (an2 h9 (an ff (an h9 (an ff (an3 h10 (an3 h11 tv))))))))))))) (by kernel_rfl) (.cons rfl (.of_eq (by rw [h1,h2,h3,h9,h10,h11]; try rfl)) .nil)
       ·exact RT hnt (nn 5 (pT :: nn 4 (sk 2 (pF :: pF :: nn 6 (pT :: pF :: nn 3 (pF :: nn 3 (pF :: .no :: []))))))) [(2,pB (p0 == 45))] (an3 h1 (an3 h2 (an2 h3 (an h2 (an h3 (an h2 (an3 ff (an2 h9 (an ff (an h9 (an ff (an3 h10 (an3 h11 tv))))))))))))) (by kernel_rfl) (.cons rfl (.of_eq (by rw [h1,h2,h3,h9,h10,h11]; try rfl)) .nil)
     ·rcases bt (p0 == 95) with h12 | h12
      ·exact RT hnt (nn 5 (pT :: nn 4 (sk 2 (pF :: pF :: nn 4 (sk 2 (pF :: pF :: nn 3 (pF :: .no :: sk 2 (pT :: .no :: [])))))))) [(2,pB true)] (an3 h1 (an3 h2 (an2 h3 (an h2 (an h3 (an h2 (an3 ff (an2 h9 (an ff (an h9 (an4 ff (an3 h12 tv)))))))))))) (by kernel_rfl) (.cons rfl (.of_eq (by rw [h1,h2,h3,h9,h12]; try rfl)) .nil)
      ·exact RT hnt (nn 5 (pT :: nn 4 (sk 2 (pF :: pF :: nn 4 (sk 2 (pF :: pF :: nn 3 (pF :: nn 3 (pF :: .no :: [])))))))) [(2,pB (p0 == 45))] (an3 h1 (an3 h2 (an2 h3 (an h2 (an h3 (an h2 (an3 ff (an2 h9 (an ff (an h9 (an4 ff (an3 h12 tv)))))))))))) (by kernel_rfl) (.cons rfl (.of_eq (by rw [h1,h2,h3,h9,h12]; try rfl)) .nil)
  ·rcases bt (decide (p0 ≥ 65)) with h13 | h13
   ·rcases bt (decide (p0 ≤ 90)) with h14 | h14
    ·exact RT hnt (nn 3 (sk 2 (pF :: nn 6 (pT :: pF :: .no :: sk 6 (pT :: .no :: sk 2 (pT :: .no :: sk 2 (pT :: .no :: []))))))) [(2,pB true)] (an3 h1 (an3 ff (an2 h13 (an ff (an h13 (an ff (an5 h14 (an6 tt tv)))))))) (by kernel_rfl) (.cons rfl (.of_eq (by rw [h1,h13,h14]; try rfl)) .nil)
    ·rcases bt (decide (p0 ≥ 48)) with h15 | h15
     ·rcases bt (decide (p0 ≤ 57)) with h16 | h16
      ·exact RT hnt (nn 3 (sk 2 (pF :: nn 6 (pT :: pF :: nn 6 (pT :: pF :: .no :: sk 2 (pT :: .no :: sk 2 (pT :: .no :: []))))))) [(2,pB true)] (an3 h1 (an3 ff (an2 h13 (an ff (an h13 (an ff (an3 h14 (an2 h15 (an h14 (an h15 (an h14 (an3 h16 (an3 tt tv))))))))))))) (by kernel_rfl) (.cons rfl (.of_eq (by rw [h1,h13,h14,h15,h16]; try rfl)) .nil)
      ·rcases bt (p0 == 95) with h17 | h17
       ·exact RT hnt (nn 3 (sk 2 (pF :: nn 6 (pT :: pF :: nn 6 (pT :: pF :: nn 3 (pF :: .no :: sk 2 (pT :: .no :: []))))))) [(2,pB true)] (an3 h1 (an3 ff (an2 h13 (an ff (an h13 (an ff (an3 h14 (an2 h15 (an h14 (an h15 (an h14 (an3 h16 (an3 h17 tv))))))))))))) (by kernel_rfl) (.cons rfl (.of_eq (by rw [h1,h13,h14,h15,h16,h17]; try rfl)) .nil)
       ·exact RT hnt (nn 3 (sk 2 (pF :: nn 6 (pT :: pF :: nn 6 (pT :: pF :: nn 3 (pF :: nn 3 (pF :: .no :: []))))))) [(2,pB (p0 == 45))] (an3 h1 (an3 ff (an2 h13 (an ff (an h13 (an ff (an3 h14 (an2 h15 (an h14 (an h15 (an h14 (an3 h16 (an3 h17 tv))))))))))))) (by kernel_rfl) (.cons rfl (.of_eq (by rw [h1,h13,h14,h15,h16,h17]; try rfl)) .nil)
     ·rcases bt (p0 == 95) with h18 | h18
      ·exact RT hnt (nn 3 (sk 2 (pF :: nn 6 (pT :: pF :: nn 4 (sk 2 (pF :: pF :: nn 3 (pF :: .no :: sk 2 (pT :: .no :: [])))))))) [(2,pB true)] (an3 h1 (an3 ff (an2 h13 (an ff (an h13 (an ff (an3 h14 (an2 h15 (an h14 (an h15 (an h14 (an3 ff (an3 h18 tv))))))))))))) (by kernel_rfl) (.cons rfl (.of_eq (by rw [h1,h13,h14,h15,h18]; try rfl)) .nil)
      ·exact RT hnt (nn 3 (sk 2 (pF :: nn 6 (pT :: pF :: nn 4 (sk 2 (pF :: pF :: nn 3 (pF :: nn 3 (pF :: .no :: [])))))))) [(2,pB (p0 == 45))] (an3 h1 (an3 ff (an2 h13 (an ff (an h13 (an ff (an3 h14 (an2 h15 (an h14 (an h15 (an h14 (an3 ff (an3 h18 tv))))))))))))) (by kernel_rfl) (.cons rfl (.of_eq (by rw [h1,h13,h14,h15,h18]; try rfl)) .nil)
   ·rcases bt (decide (p0 ≥ 48)) with h19 | h19
    ·rcases bt (decide (p0 ≤ 57)) with h20 | h20
     ·exact RT hnt (nn 3 (sk 2 (pF :: nn 4 (sk 2 (pF :: pF :: nn 6 (pT :: pF :: .no :: sk 2 (pT :: .no :: sk 2 (pT :: .no :: [])))))))) [(2,pB true)] (an3 h1 (an3 ff (an2 h13 (an ff (an h13 (an4 ff (an2 h19 (an ff (an h19 (an ff (an3 h20 (an3 tt tv)))))))))))) (by kernel_rfl) (.cons rfl (.of_eq (by rw [h1,h13,h19,h20]; try rfl)) .nil)
     ·rcases bt (p0 == 95) with h21 | h21
      ·exact RT hnt (nn 3 (sk 2 (pF :: nn 4 (sk 2 (pF :: pF :: nn 6 (pT :: pF :: nn 3 (pF :: .no :: sk 2 (pT :: .no :: [])))))))) [(2,pB true)] (an3 h1 (an3 ff (an2 h13 (an ff (an h13 (an4 ff (an2 h19 (an ff (an h19 (an ff (an3 h20 (an3 h21 tv)))))))))))) (by kernel_rfl) (.cons rfl (.of_eq (by rw [h1,h13,h19,h20,h21]; try rfl)) .nil)
      ·exact RT hnt (nn 3 (sk 2 (pF :: nn 4 (sk 2 (pF :: pF :: nn 6 (pT :: pF :: nn 3 (pF :: nn 3 (pF :: .no :: [])))))))) [(2,pB (p0 == 45))] (an3 h1 (an3 ff (an2 h13 (an ff (an h13 (an4 ff (an2 h19 (an ff (an h19 (an ff (an3 h20 (an3 h21 tv)))))))))))) (by kernel_rfl) (.cons rfl (.of_eq (by rw [h1,h13,h19,h20,h21]; try rfl)) .nil)
    ·rcases bt (p0 == 95) with h22 | h22
     ·exact RT hnt (nn 3 (sk 2 (pF :: nn 4 (sk 2 (pF :: pF :: nn 4 (sk 2 (pF :: pF :: nn 3 (pF :: .no :: sk 2 (pT :: .no :: []))))))))) [(2,pB true)] (an3 h1 (an3 ff (an2 h13 (an ff (an h13 (an4 ff (an2 h19 (an ff (an h19 (an4 ff (an3 h22 tv))))))))))) (by kernel_rfl) (.cons rfl (.of_eq (by rw [h1,h13,h19,h22]; try rfl)) .nil)
     ·exact RT hnt (nn 3 (sk 2 (pF :: nn 4 (sk 2 (pF :: pF :: nn 4 (sk 2 (pF :: pF :: nn 3 (pF :: nn 3 (pF :: .no :: []))))))))) [(2,pB (p0 == 45))] (an3 h1 (an3 ff (an2 h13 (an ff (an h13 (an4 ff (an2 h19 (an ff (an h19 (an4 ff (an3 h22 tv))))))))))) (by kernel_rfl) (.cons rfl (.of_eq (by rw [h1,h13,h19,h22]; try rfl)) .nil)
 ·refine DW.ret ?_
  obtain rfl := sj hm
  exact Am [] [] (pB ((((((decide (p0 ≥ 97)) && (decide (p0 ≤ 122))) || ((decide (p0 ≥ 65)) && (decide (p0 ≤ 90)))) || ((decide (p0 ≥ 48)) && (decide (p0 ≤ 57)))) || (p0 == 95)) || (p0 == 45)))
abbrev o30 (ks : List Nat) (b : Bool) (RES : Bool) (sm : List Nat := []) : Orc := .call 209 ks b (pB RES) [] [] sm

theorem Ub (p0 : ByteArray) (RES : Bool) (hm : Sy p0 = some RES) : Spec Tryz.prog 200 [pS p0] [] (pB RES) [] [] := by
 unfold Sy at hm
 refine SO Tryz.func200 rfl rfl [(0,pS p0)] [] ?_
 intro cx hnt
 refine Sq (RK hnt (.no :: []) [(0,pS p0)] [] tv ?_)
 refine Sq (Sq (RN hnt (nn 4 []) [(0,pS p0),(6,.p (My 1 (encK .u8) 0 (Ir p0))),(7,pI ((p0.size : Nat) : Int)),(8,pI 0)] [] [(6,.p (.sl .unk 1 p0.size (Zp p0)))] [] tv (by kernel_rfl) (.cons rfl (MLe.typed RowIs.bytes) .nil) .nil ?_))
 refine Bk ?_
 obtain ⟨hc1,hm⟩ := go1 hm
 refine DW.rangeO (fun (k1 : Nat) (s1 : Unit) => Ae [(0,pS p0),(6,.p (My 1 (encK .u8) 0 (Ir p0))),(7,pI ((p0.size : Nat) : Int)),(8,pI ((k1 : Nat) : Int))] []) 0 hm .refl ?_
 intro k1 s1 n1 hk1 hs1 he1
 refine Sq (RD hnt (.no :: []) [] [(9,pB (decide (((k1 : Nat) : Int) < ((p0.size : Nat) : Int))))] [] [] tv ?_)
 refine Sq (Ej (decide (((k1 : Nat) : Int) < ((p0.size : Nat) : Int))) ?_ ?_)
 ·intro h15
  have hlt1 : k1 < (Ir p0).length := by have := of_decide_eq_true h15; have := Nx p0; omega
  have hm := hs1 hlt1
  unfold Wz at hm
  refine Sk ?_
  refine Sq (Bk ?_)
  refine Sq (RD hnt (nn 3 []) [9] [(4,.p (vk .u8 ((Ir p0).getD k1 0)))] [] [] (an (nn0 k1) (an (ltc hlt1) tv)) ?_)
  obtain ⟨r16,hr16,hm⟩ := bo hm
  refine Sq (RD hnt (.no :: o30 [] true r16 :: .no :: []) [4] [(14,pB (!r16))] [] [] (an (Adu ((Ir p0).getD k1 0) r16 hr16) tv) ?_)
  refine Aq hm ?_ ?_
  ·intro h17 hm
   refine Sq (RK hnt (.no :: []) [(2,pB false)] [] tv ?_)
   obtain rfl := sj hm
   exact DW.ret (Am [] [] (pB false))
  ·intro h17 hm
   refine Sk ?_
   refine DW.done ?_
   show DW _ _ _ _ _
   refine RD hnt (nn 2 []) [14] [(8,pI (w64 (((k1 : Nat) : Int) + 1)))] [] [] tv ?_
   exact jD () ⟨hlt1,hm⟩ (Conv.tp [(8,pI (w64 (((k1 : Nat) : Int) + 1)))] [] (by kernel_rfl) (.cons rfl (.of_eq (congrArg pI (Da hlt1 hc1))) .nil) .nil)
 ·intro h15
  have hge1 : ¬ k1 < (Ir p0).length := by have := of_decide_eq_false h15; have := Nx p0; omega
  have hm := he1 hge1
  unfold Xm at hm
  refine DW.exit ?_
  refine Ap ?_
  refine Au ?_
  refine Aj ?_
  show DW _ _ _ _ _
  refine Sq ?_
  refine Jn (ι := Bool) (fun (y3 : Bool) => Ae [(2,pB y3)] []) (fun y3 => Ms y3 = some RES) ?_ ?_
  ·intro y3 hm
   unfold Ms at hm
   obtain rfl := sj hm
   exact DW.ret (Am [] [] (pB y3))
  ·rcases bt (!(En p0 ByteArray.empty)) with h18 | h18
   ·replace hm := Bc h18 hm
    rcases bt (decide (((p0.size : Nat) : Int) ≤ 32)) with h19 | h19
    ·replace hm := Bc h19 hm
     obtain ⟨g20,hm⟩ := go1 hm
     refine RK hnt (nn 6 (pT :: nn 4 (pT :: .no :: []))) [(2,pB ((((Bi p0 0) : Nat) : Int) != 45))] [] (an4 h18 (an2 h19 (an (nn0 0) (an (ltc g20) (an2 h19 tv))))) ?_
     exact jD ((((Bi p0 0) : Nat) : Int) != 45) hm .refl
    ·replace hm := Bd h19 hm
     refine RK hnt (nn 6 (pT :: .no :: sk 3 (pF :: .no :: []))) [(2,pB false)] [] (an4 h18 (an4 h19 tv)) ?_
     exact jD false hm .refl
   ·replace hm := Bd h18 hm
    refine RK hnt (nn 3 (sk 3 (pF :: .no :: sk 3 (pF :: .no :: [])))) [(2,pB false)] [] (an4 h18 (an4 ff tv)) ?_
    exact jD false hm .refl
abbrev o29 (ks : List Nat) (b : Bool) (RES : Bool) (sm : List Nat := []) : Orc := .call 200 ks b (pB RES) [] [] sm

abbrev Uh (p0 : List Ah) (k1 : Nat) := (p0.getD k1 (default : Ah))
abbrev c28e2 (p1 : Ah) : Nat × Obj := (1024,bx (pm (Ca p1)))
theorem Aey (p0 : List Ah) (p1 : Ah) (RES : Bool) (hm : Ve p0 p1 = some RES) : Spec Tryz.prog 176 [.p (Dd p0),.p (.agg (Ca p1))] [] (pB RES) [] [] := by
 unfold Ve at hm
 refine SO Tryz.func176 rfl rfl [(0,.p (Dd p0)),(1,.p (.agg (Ca p1)))] [] ?_
 intro cx hnt
 refine Sq (RD hnt (nn 2 []) [1] [(3,rr 1024)] [] [(c28e2 p1)] tv ?_)
 obtain ⟨g1,hm⟩ := go1 hm
 refine Sq (Sq ?_)
 refine Jn (ι := Bool) (fun (y1 : Bool) => Ae [(0,.p (Dd p0)),(3,rr 1024),(33,pB y1)] [(c28e2 p1)]) (fun y1 => (Jm p0 p1) y1 = some RES) ?_ ?_
 ·intro y1 hm
  unfold Jm at hm
  refine Aq hm ?_ ?_
  ·intro h6 hm
   refine Sq (RK hnt (.no :: []) [(4,pB false)] [] tv ?_)
   obtain rfl := sj hm
   exact DW.ret (Am [] [] (pB false))
  ·intro h6 hm
   refine Sk ?_
   refine Sq (RD hnt (.no :: []) [33] [(5,pB false)] [] [] tv ?_)
   refine Sq (Sq (RD hnt (nn 3 []) [0] [(34,.p (Dd p0)),(35,pI ((p0.length : Nat) : Int)),(36,pI 0)] [] [] tv ?_))
   refine Bk ?_
   obtain ⟨hc1,hm⟩ := go1 hm
   refine DW.rangeO (fun (k1 : Nat) (s1 : Bool) => Ae [(3,rr 1024),(5,pB s1),(34,.p (Dd p0)),(35,pI ((p0.length : Nat) : Int)),(36,pI ((k1 : Nat) : Int))] [(c28e2 p1)]) Dk hm Conv.eqK ?_
   intro k1 s1 n1 hk1 hs1 he1
   refine Sq (RD hnt (.no :: []) [] [(37,pB (decide (((k1 : Nat) : Int) < ((p0.length : Nat) : Int))))] [] [] tv ?_)
   refine Sq (Ej (decide (((k1 : Nat) : Int) < ((p0.length : Nat) : Int))) ?_ ?_)
   ·intro h16
    have hlt1 : k1 < p0.length := by have := of_decide_eq_true h16; omega
    have hm := hs1 hlt1
    unfold Zc at hm
    refine Sk ?_
    refine Sq (Bk ?_)
    refine Sq (RD hnt (nn 4 []) [37] [(7,rr 1056)] [] [(1056,bx (pm (Ca (Uh p0 k1))))] (an (nn0 k1) (an (ltc hlt1) tv)) ?_)
    refine Sq (DW.regJ (sl2 := [(3,rr 1024),(5,pB (s1 || ((Uh p0 k1).id == p1.parent))),(7,rr 1056),(34,.p (Dd p0)),(35,pI ((p0.length : Nat) : Int)),(36,pI ((k1 : Nat) : Int))]) (ob2 := [(c28e2 p1),(1056,bx (pm (Ca (Uh p0 k1))))]) ?_ ?_)
    ·rcases bt s1 with h17 | h17
     ·exact RT hnt (nn 2 (sk 5 (pT :: .no :: []))) [(5,pB true)] (an6 h17 tv) (by kernel_rfl) (.cons rfl (.of_eq (by rw [h17]; try rfl)) .nil)
     ·exact RT hnt (nn 7 (pF :: .no :: [])) [(5,pB ((Uh p0 k1).id == p1.parent))] (an6 h17 tv) (by kernel_rfl) (.cons rfl (.of_eq (by rw [h17]; try rfl)) .nil)
    ·refine Sq (DW.regJ (sl2 := [(3,rr 1024),(5,pB (s1 || ((Uh p0 k1).id == p1.parent))),(34,.p (Dd p0)),(35,pI ((p0.length : Nat) : Int)),(36,pI ((k1 : Nat) : Int)),(59,pB (((Uh p0 k1).parent == p1.parent) && (En (Uh p0 k1).name p1.name)))]) (ob2 := [(c28e2 p1)]) ?_ ?_)
     ·rcases bt ((Uh p0 k1).parent == p1.parent) with h18 | h18
      ·exact RT hnt (nn 11 (pT :: [])) [(59,pB (En (Uh p0 k1).name p1.name))] (an6 h18 tv) (by kernel_rfl) (.cons rfl (.of_eq (by rw [h18]; try rfl)) .nil)
      ·exact RT hnt (nn 6 (sk 5 (pF :: []))) [(59,pB false)] (an6 h18 tv) (by kernel_rfl) (.cons rfl (.of_eq (by rw [h18]; try rfl)) .nil)
     ·refine Aq hm ?_ ?_
      ·intro h19 hm
       refine Sq (RK hnt (.no :: []) [(4,pB false)] [] tv ?_)
       obtain rfl := sj hm
       exact DW.ret (Am [] [] (pB false))
      ·intro h19 hm
       refine Sk ?_
       refine DW.done ?_
       show DW _ _ _ _ _
       refine RD hnt (nn 2 []) [59] [(36,pI (w64 (((k1 : Nat) : Int) + 1)))] [] [] tv ?_
       exact jD (s1 || ((Uh p0 k1).id == p1.parent)) ⟨hlt1,hm⟩ (Conv.tp [(36,pI (w64 (((k1 : Nat) : Int) + 1)))] [] (by kernel_rfl) (.cons rfl (.of_eq (congrArg pI (Da hlt1 hc1))) .nil) .nil)
   ·intro h16
    have hge1 : ¬ k1 < p0.length := by have := of_decide_eq_false h16; omega
    have hm := he1 hge1
    unfold Acx at hm
    refine DW.exit ?_
    refine Ap ?_
    refine Au ?_
    refine Aj ?_
    show DW _ _ _ _ _
    refine Sq (RK hnt (nn 2 []) [(4,pB s1)] [] tv ?_)
    obtain rfl := sj hm
    exact DW.ret (Am [] [] (pB s1))
 ·rcases bt (decide (p1.id ≤ (p0.getD (Int.toNat (w64 (((p0.length : Nat) : Int) - 1))) Dk).id)) with h2 | h2
  ·replace hm := Bc h2 hm
   refine RD hnt (nn 11 (sk 4 (pT :: .no :: sk 8 (pT :: [])))) [] [(33,pB true)] [] [] (an g1.1 (an g1.2 (an5 h2 (an6 tt tv)))) ?_
   exact jD true hm Conv.eqK
  ·replace hm := Bd h2 hm
   obtain ⟨r3,hr3,hm⟩ := bo hm
   rcases bt (!r3) with h4 | h4
   ·replace hm := Bc h4 hm
    refine RD hnt (nn 13 (o29 [] true r3 :: .no :: pF :: .no :: sk 8 (pT :: []))) [] [(33,pB true)] [] [] (an g1.1 (an g1.2 (an3 h2 (an (Ub p1.name r3 hr3) (an2 h2 (an6 h4 tv)))))) ?_
    exact jD true hm Conv.eqK
   ·replace hm := Bd h4 hm
    rcases bt (p1.kind != 0) with h5 | h5
    ·replace hm := Bc h5 hm
     refine RD hnt (nn 13 (o29 [] true r3 :: .no :: pF :: nn 8 (pT :: pF :: []))) [] [(33,pB (p1.kind != 1))] [] [] (an g1.1 (an g1.2 (an3 h2 (an (Ub p1.name r3 hr3) (an2 h2 (an4 h4 (an3 h5 (an h4 (an h5 (an h4 tv)))))))))) ?_
     exact jD (p1.kind != 1) hm Conv.eqK
    ·replace hm := Bd h5 hm
     refine RD hnt (nn 13 (o29 [] true r3 :: .no :: pF :: nn 5 (sk 3 (pF :: pF :: [])))) [] [(33,pB false)] [] [] (an g1.1 (an g1.2 (an3 h2 (an (Ub p1.name r3 hr3) (an2 h2 (an4 h4 (an3 h5 (an h4 (an h5 (an h4 tv)))))))))) ?_
     exact jD false hm Conv.eqK
abbrev o28 (ks : List Nat) (b : Bool) (RES : Bool) (sm : List Nat := []) : Orc := .call 176 ks b (pB RES) [] [] sm

abbrev Mi (p0 : Ab) (k1 : Nat) := (p0.nodes.getD k1 (default : Ah))
abbrev c26e2 (s1 : IMap Int) (p0 : Ab) (k1 : Nat) := (s1.set (Mi p0 k1).id (w64 ((s1.get (Mi p0 k1).parent) + 1)))
abbrev c26e3 (p0 : Ab) : Nat × MV := (27,pI ((p0.nodes.length : Nat) : Int))
abbrev c26e4 (p0 : Ab) : Nat × Obj := (1008,bx (pm (Ak p0)))
theorem Zo (p0 : Ab) (RES : Bool) (hm : Nq p0 = some RES) : Spec Tryz.prog 136 [.p (.agg (Ak p0))] [] (pB RES) [] [] := by
 unfold Nq at hm
 refine SO Tryz.func136 rfl rfl [(0,.p (.agg (Ak p0)))] [] ?_
 intro cx hnt
 refine Sq (RK hnt (nn 2 []) [(1,rr 1008)] [(c26e4 p0)] tv ?_)
 refine Sq (Sq ?_)
 refine Jn (ι := Bool) (fun (y1 : Bool) => Ae [(1,rr 1008),(23,pB y1)] [(c26e4 p0)]) (fun y1 => (Nd p0) y1 = some RES) ?_ ?_
 ·intro y1 hm
  unfold Nd at hm
  refine Aq hm ?_ ?_
  ·intro h5 hm
   refine Sq (RK hnt (.no :: []) [(2,pB false)] [] tv ?_)
   obtain rfl := sj hm
   exact DW.ret (Am [] [] (pB false))
  ·intro h5 hm
   refine Sk ?_
   refine Sq (RD hnt (nn 2 []) [23] [(3,.mref 1192 0)] [] [(1192,ob0 (Bv vi (vi 0) (IMap.empty 0)))] tv ?_)
   refine Sq (Sq (RD hnt (nn 4 []) [] [(26,.p (Dd p0.nodes)),(c26e3 p0),(28,pI 0)] [] [] tv ?_))
   refine Bk ?_
   obtain ⟨hc1,hm⟩ := go1 hm
   refine DW.rangeO (fun (k1 : Nat) (s1 : IMap Int) => Ae [(1,rr 1008),(3,.mref 1192 0),(26,.p (Dd p0.nodes)),(c26e3 p0),(28,pI ((k1 : Nat) : Int))] [(c26e4 p0),(1192,ob0 (Bv vi (vi 0) s1))]) Dk hm Conv.eqK ?_
   intro k1 s1 n1 hk1 hs1 he1
   refine Sq (RD hnt (.no :: []) [] [(29,pB (decide (((k1 : Nat) : Int) < ((p0.nodes.length : Nat) : Int))))] [] [] tv ?_)
   refine Sq (Ej (decide (((k1 : Nat) : Int) < ((p0.nodes.length : Nat) : Int))) ?_ ?_)
   ·intro h36
    have hlt1 : k1 < p0.nodes.length := by have := of_decide_eq_true h36; omega
    have hm := hs1 hlt1
    unfold Ws at hm
    refine Sk ?_
    refine Sq (Bk ?_)
    refine Sq (RD hnt (nn 6 []) [29] [(4,pI ((k1 : Nat) : Int)),(5,rr 1040)] [] [(1040,bx (pm (Ca (Mi p0 k1))))] (an (nn0 k1) (an (ltc hlt1) tv)) ?_)
    refine Sq (Sq ?_)
    refine Jn (ι := Bool) (fun (y8 : Bool) => Ae [(1,rr 1008),(3,.mref 1192 0),(4,pI ((k1 : Nat) : Int)),(5,rr 1040),(26,.p (Dd p0.nodes)),(c26e3 p0),(28,pI ((k1 : Nat) : Int)),(64,pB y8)] [(c26e4 p0),(1040,bx (pm (Ca (Mi p0 k1)))),(1192,ob0 (Bv vi (vi 0) s1))]) (fun y8 => (Ha k1 (Mi p0 k1) s1 n1) y8 = some RES) ?_ ?_
    ·intro y8 hm
     unfold Ha at hm
     refine Aq hm ?_ ?_
     ·intro h44 hm
      refine Sq (RK hnt (.no :: []) [(2,pB false)] [] tv ?_)
      obtain rfl := sj hm
      exact DW.ret (Am [] [] (pB false))
     ·intro h44 hm
      refine Sk ?_
      refine Sq (Sq (RD hnt (nn 2 []) [4,64] [(66,pB (decide (((k1 : Nat) : Int) > 0)))] [] [] tv ?_))
      refine Jn (ι := IMap Int) (fun (y9 : IMap Int) => Ae [(1,rr 1008),(3,.mref 1192 0),(5,rr 1040),(26,.p (Dd p0.nodes)),(c26e3 p0),(28,pI ((k1 : Nat) : Int))] [(c26e4 p0),(1040,bx (pm (Ca (Mi p0 k1)))),(1192,ob0 (Bv vi (vi 0) y9))]) (fun y9 => (Pk (Mi p0 k1) n1) y9 = some RES) ?_ ?_
      ·intro y9 hm
       unfold Pk at hm
       refine Sq (RD hnt (nn 5 []) [5] [(79,pB (decide ((y9.get (Mi p0 k1).id) > 8)))] [1040] [] (an (PLe.rfl : PLe (vi 0) (vi 0)) tv) ?_)
       refine Aq hm ?_ ?_
       ·intro h46 hm
        refine Sq (RK hnt (.no :: []) [(2,pB false)] [] tv ?_)
        obtain rfl := sj hm
        exact DW.ret (Am [] [] (pB false))
       ·intro h46 hm
        refine Sk ?_
        refine DW.done ?_
        show DW _ _ _ _ _
        refine RD hnt (nn 2 []) [79] [(28,pI (w64 (((k1 : Nat) : Int) + 1)))] [] [] tv ?_
        exact jD y9 ⟨hlt1,hm⟩ (Conv.tp [(28,pI (w64 (((k1 : Nat) : Int) + 1)))] [] (by kernel_rfl) (.cons rfl (.of_eq (congrArg pI (Da hlt1 hc1))) .nil) .nil)
      ·refine Aq hm ?_ ?_
       ·intro h45 hm
        refine RD hnt (nn 8 (.asM (vi 0) (c26e2 s1 p0 k1).has (fun j => vi ((c26e2 s1 p0 k1).get j)) :: [])) [66] [] [] [(1192,ob0 (Bv vi (vi 0) (c26e2 s1 p0 k1)))] (an (PLe.rfl : PLe (vi 0) (vi 0)) (an (Wf vi (vi 0) s1 (Mi p0 k1).id (w64 ((s1.get (Mi p0 k1).parent) + 1)) PLe.rfl) tv)) ?_
        exact jD (c26e2 s1 p0 k1) hm Conv.eqK
       ·intro h45 hm
        refine Sk ?_
        exact jD s1 hm Conv.t0
    ·rcases bt (decide ((Mi p0 k1).control < 0)) with h37 | h37
     ·replace hm := Bc h37 hm
      refine RD hnt (nn 4 (sk 4 (pT :: .no :: sk 3 (pT :: .no :: sk 3 (pT :: .no :: sk 11 (pT :: [])))))) [] [(64,pB true)] [] [] (an5 h37 (an tt (an6 tt (an6 tt tv)))) ?_
      exact jD true hm Conv.eqK
     ·replace hm := Bd h37 hm
      rcases bt ((Tu .i64 (Mi p0 k1).control 31) != 0) with h38 | h38
      ·replace hm := Bc h38 hm
       refine RD hnt (nn 8 (pF :: .no :: sk 3 (pT :: .no :: sk 3 (pT :: .no :: sk 11 (pT :: []))))) [] [(64,pB true)] [] [] (an5 h37 (an4 h38 (an3 tt (an6 tt tv)))) ?_
       exact jD true hm Conv.eqK
      ·replace hm := Bd h38 hm
       rcases bt (decide ((Mi p0 k1).owner < 0)) with h39 | h39
       ·replace hm := Bc h39 hm
        refine RD hnt (nn 8 (pF :: nn 4 (pF :: .no :: sk 3 (pT :: .no :: sk 11 (pT :: []))))) [] [(64,pB true)] [] [] (an5 h37 (an4 h38 (an4 h39 (an5 tt tv)))) ?_
        exact jD true hm Conv.eqK
       ·replace hm := Bd h39 hm
        rcases bt (decide ((Mi p0 k1).owner > 1048576)) with h40 | h40
        ·replace hm := Bc h40 hm
         refine RD hnt (nn 8 (pF :: nn 4 (pF :: nn 4 (pF :: .no :: sk 11 (pT :: []))))) [] [(64,pB true)] [] [] (an5 h37 (an4 h38 (an4 h39 (an5 h40 tv)))) ?_
         exact jD true hm Conv.eqK
        ·replace hm := Bd h40 hm
         rcases bt (decide (((k1 : Nat) : Int) > 0)) with h41 | h41
         ·replace hm := Bc h41 hm
          obtain ⟨g42,hm⟩ := go1 hm
          obtain ⟨r43,hr43,hm⟩ := bo hm
          refine RD hnt (nn 8 (pF :: nn 4 (pF :: nn 4 (pF :: nn 9 (o28 [] true r43 :: .no :: pT :: pF :: []))))) [] [(64,pB (!r43))] [] [] (an5 h37 (an4 h38 (an4 h39 (an3 h40 (an4 h41 (an (by omega : (0 : Int) ≤ 0) (an (by omega : (0 : Int) ≤ ((k1 : Nat) : Int)) (an (by omega : ((k1 : Nat) : Int) ≤ ((p0.nodes.length : Nat) : Int)) (an2 h41 (an (Spec.args (xs := [.p (.sl .unk 6 k1 (Uq p0.nodes)),.p (.agg (Ca (Mi p0 k1)))]) (Aey (p0.nodes.take k1) (Mi p0 k1) r43 hr43) (.cons (.p (PLe.typed (RowIs.elems.take (by omega)))) (.cons .rfl .nil))) (an h41 (an h40 (an h41 (an h40 tv)))))))))))))) ?_
          exact jD (!r43) hm Conv.eqK
         ·replace hm := Bd h41 hm
          refine RD hnt (nn 8 (pF :: nn 4 (pF :: nn 4 (pF :: nn 4 (sk 7 (pF :: pF :: [])))))) [] [(64,pB false)] [] [] (an5 h37 (an4 h38 (an4 h39 (an3 h40 (an h41 (an6 h41 (an h40 (an h41 (an h40 tv))))))))) ?_
          exact jD false hm Conv.eqK
   ·intro h36
    have hge1 : ¬ k1 < p0.nodes.length := by have := of_decide_eq_false h36; omega
    have hm := he1 hge1
    unfold Xa at hm
    refine DW.exit ?_
    refine Ap ?_
    refine Au ?_
    refine Aj ?_
    show DW _ _ _ _ _
    obtain ⟨g47,hm⟩ := go1 hm
    refine Sq ?_
    refine Jn (ι := Bool) (fun (y10 : Bool) => Ae [(2,pB y10)] []) (fun y10 => Oe y10 = some RES) ?_ ?_
    ·intro y10 hm
     unfold Oe at hm
     obtain rfl := sj hm
     exact DW.ret (Am [] [] (pB y10))
    ·rcases bt (decide (p0.next > (p0.nodes.getD (Int.toNat (w64 (((p0.nodes.length : Nat) : Int) - 1))) Dk).id)) with h48 | h48
     ·replace hm := Bc h48 hm
      refine RK hnt (nn 16 (pT :: .no :: [])) [(2,pB (decide (p0.next ≤ 2147483648)))] [] (an g47.1 (an g47.2 (an4 h48 tv))) ?_
      exact jD (decide (p0.next ≤ 2147483648)) hm .refl
     ·replace hm := Bd h48 hm
      refine RK hnt (nn 13 (sk 3 (pF :: .no :: []))) [(2,pB false)] [] (an g47.1 (an g47.2 (an4 h48 tv))) ?_
      exact jD false hm .refl
 ·rcases bt (decide (((p0.nodes.length : Nat) : Int) < 1)) with h1 | h1
  ·replace hm := Bc h1 hm
   refine RD hnt (nn 5 (sk 4 (pT :: .no :: sk 6 (pT :: [])))) [] [(23,pB true)] [] [] (an5 h1 (an tt (an6 tt tv))) ?_
   exact jD true hm Conv.eqK
  ·replace hm := Bd h1 hm
   rcases bt (decide (((p0.nodes.length : Nat) : Int) > 64)) with h2 | h2
   ·replace hm := Bc h2 hm
    refine RD hnt (nn 9 (pF :: .no :: sk 6 (pT :: []))) [] [(23,pB true)] [] [] (an5 h1 (an h2 (an6 h2 tv))) ?_
    exact jD true hm Conv.eqK
   ·replace hm := Bd h2 hm
    obtain ⟨g3,hm⟩ := go1 hm
    obtain ⟨r4,hr4,hm⟩ := bo hm
    refine RD hnt (nn 9 (pF :: nn 5 (o27 [] true r4 :: .no :: pF :: []))) [] [(23,pB (!r4))] [] [] (an5 h1 (an3 h2 (an (nn0 0) (an (ltc g3) (an2 h2 (an (Aep (p0.nodes.getD 0 Dk) r4 hr4) (an2 h2 tv))))))) ?_
    exact jD (!r4) hm Conv.eqK
abbrev o26 (ks : List Nat) (b : Bool) (RES : Bool) (sm : List Nat := []) : Orc := .call 136 ks b (pB RES) [] [] sm

theorem Aa (p0 : Int) (p1 : Int) (p2 : Int) (RES : Bool) (hm : Cj p0 p1 p2 = some RES) : Spec Tryz.prog 185 [pI p0,pI p1,pI p2] [] (pB RES) [] [] := by
 unfold Cj at hm
 refine SO Tryz.func185 rfl rfl [(0,pI p0),(1,pI p1),(2,pI p2)] [] ?_
 intro cx hnt
 refine Sq (RD hnt (.no :: []) [] [] [] [] tv ?_)
 refine Sq (DW.regJ (sl2 := [(6,pB ((decide (p0 ≥ p1)) && (decide (p0 ≤ p2))))]) (ob2 := []) ?_ ?_)
 ·rcases bt (decide (p0 ≥ p1)) with h1 | h1
  ·exact RT hnt (nn 7 (pT :: .no :: [])) [(6,pB (decide (p0 ≤ p2)))] (an4 h1 tv) (by kernel_rfl) (.cons rfl (.of_eq (by rw [h1]; try rfl)) .nil)
  ·exact RT hnt (nn 4 (sk 3 (pF :: .no :: []))) [(6,pB false)] (an4 h1 tv) (by kernel_rfl) (.cons rfl (.of_eq (by rw [h1]; try rfl)) .nil)
 ·refine DW.ret ?_
  obtain rfl := sj hm
  exact Am [] [] (pB ((decide (p0 ≥ p1)) && (decide (p0 ≤ p2))))
abbrev o32 (ks : List Nat) (b : Bool) (RES : Bool) (sm : List Nat := []) : Orc := .call 185 ks b (pB RES) [] [] sm

theorem Bh (p0 : Ao) (RES : Bool) (hm : Ii p0 = some RES) : Spec Tryz.prog 186 [.p (.agg (Dv p0))] [] (pB RES) [] [] := by
 unfold Ii at hm
 refine SO Tryz.func186 rfl rfl [(0,.p (.agg (Dv p0)))] [] ?_
 intro cx hnt
 refine Sq (RK hnt (nn 2 []) [(1,rr 1008)] [(1008,bx (pm (Dv p0)))] tv ?_)
 refine Sq (Sq (RD hnt (nn 3 []) [] [(5,pB (p0.quota == 4611686018427387904))] [] [] tv ?_))
 refine Aq hm ?_ ?_
 ·intro h1 hm
  obtain ⟨r2,hr2,hm⟩ := bo hm
  refine Sq ?_
  refine Jn (ι := Bool) (fun (y1 : Bool) => Ae [(2,pB y1)] []) (fun y1 => Is y1 = some RES) ?_ ?_
  ·intro y1 hm
   unfold Is at hm
   obtain rfl := sj hm
   exact DW.ret (Am [] [] (pB y1))
  ·rcases bt r2 with h3 | h3
   ·replace hm := Bc h3 hm
    refine RK hnt (nn 2 (o32 [] true r2 :: nn 4 (pT :: .no :: []))) [(2,pB (p0.burst == 0))] [] (an (Aa p0.period 1 1000000 r2 hr2) (an4 h3 tv)) ?_
    exact jD (p0.burst == 0) hm .refl
   ·replace hm := Bd h3 hm
    refine RK hnt (nn 2 (o32 [] true r2 :: .no :: sk 3 (pF :: .no :: []))) [(2,pB false)] [] (an (Aa p0.period 1 1000000 r2 hr2) (an4 h3 tv)) ?_
    exact jD false hm .refl
 ·intro h1 hm
  refine Sk ?_
  obtain ⟨r4,hr4,hm⟩ := bo hm
  refine Sq ?_
  refine Jn (ι := Bool) (fun (y2 : Bool) => Ae [(2,pB y2)] []) (fun y2 => Hf y2 = some RES) ?_ ?_
  ·intro y2 hm
   unfold Hf at hm
   obtain rfl := sj hm
   exact DW.ret (Am [] [] (pB y2))
  ·rcases bt r4 with h5 | h5
   ·replace hm := Bc h5 hm
    obtain ⟨r6,hr6,hm⟩ := bo hm
    rcases bt r6 with h7 | h7
    ·replace hm := Bc h7 hm
     obtain ⟨r8,hr8,hm⟩ := bo hm
     refine RK hnt (nn 2 (o32 [] true r4 :: nn 3 (o32 [] true r6 :: pT :: nn 5 (o32 [] true r8 :: pT :: .no :: [])))) [(2,pB r8)] [] (an (Aa p0.period 1 1000000 r4 hr4) (an3 h5 (an (Aa p0.quota 1 1000000 r6 hr6) (an h5 (an5 h7 (an (Aa p0.burst 0 p0.quota r8 hr8) (an h7 tv))))))) ?_
     exact jD r8 hm .refl
    ·replace hm := Bd h7 hm
     refine RK hnt (nn 2 (o32 [] true r4 :: nn 3 (o32 [] true r6 :: pT :: .no :: sk 5 (pF :: .no :: [])))) [(2,pB false)] [] (an (Aa p0.period 1 1000000 r4 hr4) (an3 h5 (an (Aa p0.quota 1 1000000 r6 hr6) (an h5 (an6 h7 tv))))) ?_
     exact jD false hm .refl
   ·replace hm := Bd h5 hm
    refine RK hnt (nn 2 (o32 [] true r4 :: .no :: sk 3 (pF :: .no :: sk 5 (pF :: .no :: [])))) [(2,pB false)] [] (an (Aa p0.period 1 1000000 r4 hr4) (an4 h5 (an6 ff tv))) ?_
    exact jD false hm .refl
abbrev o33 (ks : List Nat) (b : Bool) (RES : Bool) (sm : List Nat := []) : Orc := .call 186 ks b (pB RES) [] [] sm

theorem Cf (p0 : List Int) (p1 : Int) (RES : Bool) (hm : Jo p0 p1 = some RES) : Spec Tryz.prog 103 [.p (slI p0),pI p1] [] (pB RES) [] [] := by
 unfold Jo at hm
 refine SO Tryz.func103 rfl rfl [(0,.p (slI p0)),(1,pI p1)] [] ?_
 intro cx hnt
 refine Sq (RD hnt (.no :: []) [] [] [] [] tv ?_)
 refine Sq (Sq (RD hnt (nn 3 []) [] [(7,.p (slI p0)),(8,pI ((p0.length : Nat) : Int)),(9,pI 0)] [] [] tv ?_))
 refine Bk ?_
 obtain ⟨hc1,hm⟩ := go1 hm
 refine DW.rangeO (fun (k1 : Nat) (s1 : Unit) => Ae [(0,.p (slI p0)),(1,pI p1),(7,.p (slI p0)),(8,pI ((p0.length : Nat) : Int)),(9,pI ((k1 : Nat) : Int))] []) 0 hm Conv.eqK ?_
 intro k1 s1 n1 hk1 hs1 he1
 refine Sq (RD hnt (.no :: []) [] [(10,pB (decide (((k1 : Nat) : Int) < ((p0.length : Nat) : Int))))] [] [] tv ?_)
 refine Sq (Ej (decide (((k1 : Nat) : Int) < ((p0.length : Nat) : Int))) ?_ ?_)
 ·intro h15
  have hlt1 : k1 < p0.length := by have := of_decide_eq_true h15; omega
  have hm := hs1 hlt1
  unfold Xh at hm
  refine Sk ?_
  refine Sq (Bk ?_)
  refine Sq (RD hnt (nn 5 []) [10] [(5,pI ((k1 : Nat) : Int)),(6,pI (p0.getD k1 0))] [] [] (an (nn0 k1) (an (ltc hlt1) tv)) ?_)
  refine Sq ?_
  refine Jn (ι := Bool) (fun (y3 : Bool) => Ae [(0,.p (slI p0)),(1,pI p1),(7,.p (slI p0)),(8,pI ((p0.length : Nat) : Int)),(9,pI ((k1 : Nat) : Int)),(33,pB y3)] []) (fun y3 => (Le n1) y3 = some RES) ?_ ?_
  ·intro y3 hm
   unfold Le at hm
   refine Aq hm ?_ ?_
   ·intro h20 hm
    refine Sq (RK hnt (.no :: []) [(4,pB false)] [] tv ?_)
    obtain rfl := sj hm
    exact DW.ret (Am [] [] (pB false))
   ·intro h20 hm
    refine Sk ?_
    refine DW.done ?_
    show DW _ _ _ _ _
    refine RD hnt (nn 2 []) [33] [(9,pI (w64 (((k1 : Nat) : Int) + 1)))] [] [] tv ?_
    exact jD () ⟨hlt1,hm⟩ (Conv.tp [(9,pI (w64 (((k1 : Nat) : Int) + 1)))] [] (by kernel_rfl) (.cons rfl (.of_eq (congrArg pI (Da hlt1 hc1))) .nil) .nil)
  ·rcases bt (decide ((p0.getD k1 0) < 0)) with h16 | h16
   ·replace hm := Bc h16 hm
    refine RD hnt (nn 3 (sk 3 (pT :: .no :: sk 11 (pT :: [])))) [5,6] [(33,pB true)] [] [] (an4 h16 (an5 tt tv)) ?_
    exact jD true hm Conv.eqK
   ·replace hm := Bd h16 hm
    rcases bt (decide ((p0.getD k1 0) ≥ p1)) with h17 | h17
    ·replace hm := Bc h17 hm
     refine RD hnt (nn 6 (pF :: .no :: sk 11 (pT :: []))) [5,6] [(33,pB true)] [] [] (an4 h16 (an5 h17 tv)) ?_
     exact jD true hm Conv.eqK
    ·replace hm := Bd h17 hm
     rcases bt (decide (((k1 : Nat) : Int) > 0)) with h18 | h18
     ·replace hm := Bc h18 hm
      obtain ⟨g19,hm⟩ := go1 hm
      refine RD hnt (nn 6 (pF :: nn 11 (pT :: pF :: []))) [5,6] [(33,pB (decide ((p0.getD k1 0) ≤ (p0.getD (Int.toNat (w64 (((k1 : Nat) : Int) - 1))) 0))))] [] [] (an4 h16 (an3 h17 (an5 h18 (an g19.1 (an g19.2 (an2 h18 (an h17 (an h18 (an h17 tv))))))))) ?_
      exact jD (decide ((p0.getD k1 0) ≤ (p0.getD (Int.toNat (w64 (((k1 : Nat) : Int) - 1))) 0))) hm Conv.eqK
     ·replace hm := Bd h18 hm
      refine RD hnt (nn 6 (pF :: nn 4 (sk 7 (pF :: pF :: [])))) [5,6] [(33,pB false)] [] [] (an4 h16 (an3 h17 (an h18 (an6 h18 (an h17 (an h18 (an h17 tv))))))) ?_
      exact jD false hm Conv.eqK
 ·intro h15
  have hge1 : ¬ k1 < p0.length := by have := of_decide_eq_false h15; omega
  have hm := he1 hge1
  unfold Abd at hm
  refine DW.exit ?_
  refine Ap ?_
  refine Au ?_
  refine Aj ?_
  show DW _ _ _ _ _
  refine Sq (RK hnt (.no :: []) [(4,pB true)] [] tv ?_)
  obtain rfl := sj hm
  exact DW.ret (Am [] [] (pB true))
abbrev o34 (ks : List Nat) (b : Bool) (RES : Bool) (sm : List Nat := []) : Orc := .call 103 ks b (pB RES) [] [] sm

theorem Ai (p0 : Int) (p1 : Int) (p2 : Int) (RES : Bool) (hm : Fj p0 p1 p2 = some RES) : Spec Tryz.prog 177 [pI p0,pI p1,pI p2] [] (pB RES) [] [] := by
 unfold Fj at hm
 refine SO Tryz.func177 rfl rfl [(0,pI p0),(1,pI p1),(2,pI p2)] [] ?_
 intro cx hnt
 refine Sq (RD hnt (.no :: []) [] [] [] [] tv ?_)
 refine Sq (DW.regJ (sl2 := [(6,pB (((decide (p0 ≥ p1)) && (decide (p0 ≤ p2))) || (p0 == 4611686018427387904)))]) (ob2 := []) ?_ ?_)
 ·rcases bt (decide (p0 ≥ p1)) with h1 | h1
  ·rcases bt (decide (p0 ≤ p2)) with h2 | h2
   ·exact RT hnt (nn 7 (pT :: .no :: sk 2 (pT :: .no :: []))) [(6,pB true)] (an4 h1 (an3 h2 tv)) (by kernel_rfl) (.cons rfl (.of_eq (by rw [h1,h2]; try rfl)) .nil)
   ·exact RT hnt (nn 7 (pT :: nn 3 (pF :: .no :: []))) [(6,pB (p0 == 4611686018427387904))] (an4 h1 (an3 h2 tv)) (by kernel_rfl) (.cons rfl (.of_eq (by rw [h1,h2]; try rfl)) .nil)
  ·exact RT hnt (nn 4 (sk 3 (pF :: nn 3 (pF :: .no :: [])))) [(6,pB (p0 == 4611686018427387904))] (an4 h1 (an3 ff tv)) (by kernel_rfl) (.cons rfl (.of_eq (by rw [h1]; try rfl)) .nil)
 ·refine DW.ret ?_
  obtain rfl := sj hm
  exact Am [] [] (pB (((decide (p0 ≥ p1)) && (decide (p0 ≤ p2))) || (p0 == 4611686018427387904)))
abbrev o36 (ks : List Nat) (b : Bool) (RES : Bool) (sm : List Nat := []) : Orc := .call 177 ks b (pB RES) [] [] sm

theorem Li (p0 : Hm) (RES : Bool) (hm : Fd p0 = some RES) : Spec Tryz.prog 139 [.p (.agg (Kk p0))] [] (pB RES) [] [] := by
 unfold Fd at hm
 refine SO Tryz.func139 rfl rfl [(0,.p (.agg (Kk p0)))] [] ?_
 intro cx hnt
 refine Sq (RK hnt (nn 2 []) [(1,rr 1008)] [(1008,bx (pm (Kk p0)))] tv ?_)
 obtain ⟨r1,hr1,hm⟩ := bo hm
 refine Sq ?_
 refine Jn (ι := Bool) (fun (y1 : Bool) => Ae [(2,pB y1)] []) (fun y1 => Gk y1 = some RES) ?_ ?_
 ·intro y1 hm
  unfold Gk at hm
  obtain rfl := sj hm
  exact DW.ret (Am [] [] (pB y1))
 ·rcases bt r1 with h2 | h2
  ·replace hm := Bc h2 hm
   obtain ⟨r3,hr3,hm⟩ := bo hm
   rcases bt r3 with h4 | h4
   ·replace hm := Bc h4 hm
    obtain ⟨r5,hr5,hm⟩ := bo hm
    rcases bt r5 with h6 | h6
    ·replace hm := Bc h6 hm
     obtain ⟨r7,hr7,hm⟩ := bo hm
     rcases bt r7 with h8 | h8
     ·replace hm := Bc h8 hm
      obtain ⟨r9,hr9,hm⟩ := bo hm
      refine RK hnt (nn 2 (o36 [] true r1 :: nn 3 (o36 [] true r3 :: pT :: nn 3 (o36 [] true r5 :: pT :: nn 3 (o36 [] true r7 :: pT :: nn 3 (o36 [] true r9 :: pT :: .no :: [])))))) [(2,pB r9)] [] (an (Ai p0.min 0 1099511627776 r1 hr1) (an3 h2 (an (Ai p0.low 0 1099511627776 r3 hr3) (an h2 (an3 h4 (an (Ai p0.high 0 1099511627776 r5 hr5) (an h4 (an3 h6 (an (Ai p0.max 0 1099511627776 r7 hr7) (an h6 (an3 h8 (an (Ai p0.swapMax 0 1099511627776 r9 hr9) (an h8 tv))))))))))))) ?_
      exact jD r9 hm .refl
     ·replace hm := Bd h8 hm
      refine RK hnt (nn 2 (o36 [] true r1 :: nn 3 (o36 [] true r3 :: pT :: nn 3 (o36 [] true r5 :: pT :: nn 3 (o36 [] true r7 :: pT :: .no :: sk 3 (pF :: .no :: [])))))) [(2,pB false)] [] (an (Ai p0.min 0 1099511627776 r1 hr1) (an3 h2 (an (Ai p0.low 0 1099511627776 r3 hr3) (an h2 (an3 h4 (an (Ai p0.high 0 1099511627776 r5 hr5) (an h4 (an3 h6 (an (Ai p0.max 0 1099511627776 r7 hr7) (an h6 (an4 h8 tv))))))))))) ?_
      exact jD false hm .refl
    ·replace hm := Bd h6 hm
     refine RK hnt (nn 2 (o36 [] true r1 :: nn 3 (o36 [] true r3 :: pT :: nn 3 (o36 [] true r5 :: pT :: .no :: sk 3 (pF :: .no :: sk 3 (pF :: .no :: [])))))) [(2,pB false)] [] (an (Ai p0.min 0 1099511627776 r1 hr1) (an3 h2 (an (Ai p0.low 0 1099511627776 r3 hr3) (an h2 (an3 h4 (an (Ai p0.high 0 1099511627776 r5 hr5) (an h4 (an4 h6 (an4 ff tv))))))))) ?_
     exact jD false hm .refl
   ·replace hm := Bd h4 hm
    refine RK hnt (nn 2 (o36 [] true r1 :: nn 3 (o36 [] true r3 :: pT :: .no :: sk 3 (pF :: .no :: sk 3 (pF :: .no :: sk 3 (pF :: .no :: [])))))) [(2,pB false)] [] (an (Ai p0.min 0 1099511627776 r1 hr1) (an3 h2 (an (Ai p0.low 0 1099511627776 r3 hr3) (an h2 (an4 h4 (an2 ff (an6 ff tv))))))) ?_
    exact jD false hm .refl
  ·replace hm := Bd h2 hm
   refine RK hnt (nn 2 (o36 [] true r1 :: .no :: sk 3 (pF :: .no :: sk 3 (pF :: .no :: sk 3 (pF :: .no :: sk 3 (pF :: .no :: [])))))) [(2,pB false)] [] (an (Ai p0.min 0 1099511627776 r1 hr1) (an4 h2 (an6 ff (an6 ff tv)))) ?_
   exact jD false hm .refl
abbrev o35 (ks : List Nat) (b : Bool) (RES : Bool) (sm : List Nat := []) : Orc := .call 139 ks b (pB RES) [] [] sm
end Go.Dm

