/- Texts of the proof of CpusetAll: the data machine, the models of the Go functions, their contracts. -/
import Derived.Test.YtkmmocjhkaagpaaGreatCpusetAllA2
import Derived.Test.YtkmmocjhkaagpaaGreatCpusetAllA1
import Derived.RangeFuncSeq
import Derived.RangeFuncBox
import Derived.Shelf.Abstract
import Derived.WalkKit
import Derived.OwnWalkIn
import Derived.TacticsInMore
import Derived.LoopNIn
import Derived.LoopIn
import Derived.Test.YtkmmocjhkaagpaaGreatProg
set_option linter.unusedVariables false
set_option linter.unusedSimpArgs false
/- Plain theory, part 39: ascending lists; Sorted of the sets; Compact of lists that do not fall. -/
namespace Go.Dm
abbrev Asc (L:List Int):Prop:=L.Pairwise (· < ·)
theorem Acf : ∀ {A B:List Int},Asc A→Asc B→(∀ x,x∈A↔x∈B)→A=B
 | [],B,_,_,h=>by
  cases B with
  | nil=>rfl
  | cons b B=>exact absurd ((h b).mpr (by simp)) (by simp)
 | a::A,[],_,_,h=>absurd ((h a).mp (by simp)) (by simp)
 | a::A,b::B,ha,hb,h=>by
  rw [Asc,List.pairwise_cons] at ha hb
  have hab:a=b:=by
   rcases List.mem_cons.mp ((h a).mp (by simp)) with e|e
   ·exact e
   ·rcases List.mem_cons.mp ((h b).mpr (by simp)) with e'|e'
    ·exact e'.symm
    ·have h1:=hb.1 a e
     have h2:=ha.1 b e'
     omega
  subst hab
  congr 1
  refine Acf ha.2 hb.2 fun x => ?_
  have hx:=h x
  simp only [List.mem_cons] at hx
  constructor
  ·intro hm
   rcases hx.mp (.inr hm) with e|e
   ·have:=ha.1 x hm
    omega
   ·exact e
  ·intro hm
   rcases hx.mpr (.inr hm) with e|e
   ·have:=hb.1 x hm
    omega
   ·exact e
theorem Yy {A:List Int} (h:Asc A):A.Nodup:=h.imp fun h=>by omega
theorem put_in {L:List Int} {k:Nat} {x:Int} (hk:k≤L.length):(Oe (L ++ [0]) (k+1) (Hn (Cr (L ++ [0]).length k) (Cr (L ++ [0]).length (k+1))) (((L ++ [0]).drop k).take (Cr (L ++ [0]).length k))).set k x=L.take k++x::L.drop k:=by
 have e1:(L ++ [0]).drop k=L.drop k ++ [0]:=List.drop_append_of_le_length hk
 have hl:(L ++ [0]).length=L.length+1:=by simp
 have e2:Hn (L.length+1-k) (L.length+1-(k+1))=L.length-k:=by
  rw [Aax]
  show min _ _=_
  omega
 have e3:(L.drop k ++ [0]).take (L.length+1-k)=L.drop k ++ [(0:Int)]:=List.take_of_length_le (by simp; omega)
 have e4:(L.drop k ++ [(0:Int)]).take (L.length-k)=L.drop k:=by
  rw [List.take_append_of_le_length (by simp),List.take_of_length_le (by simp)]
 have e5:(L ++ [0]).drop (k+1+(L.length-k))=([]:List Int):=List.drop_of_length_le (by simp; omega)
 have e6:∃ y,(L ++ [0]).take (k+1)=L.take k ++ [y]:=by
  rw [List.take_add_one,List.take_append_of_le_length hk]
  have:k<(L ++ [(0:Int)]).length:=by simp; omega
  exact ⟨(L ++ [0])[k],by rw [List.getElem?_eq_getElem this]; rfl⟩
 obtain ⟨y,e6⟩:=e6
 unfold Oe
 rw [Ic,Ic,hl,e2,e1,e3,e4,e5,e6,List.append_nil,List.append_assoc]
 have hlen:(L.take k).length=k:=by simp; omega
 rw [List.set_append_right _ _ (by omega),hlen,Nat.sub_self]
 rfl
theorem asc_put {L:List Int} {k:Nat} {x:Int} (h:Asc L) (h1:∀ y∈L.take k,y<x) (h2:∀ y∈L.drop k,x<y):Asc (L.take k++x::L.drop k):=by
 rw [Asc,List.pairwise_append,List.pairwise_cons]
 have hs:Asc (L.take k++L.drop k):=by rw [List.take_append_drop]; exact h
 rw [Asc,List.pairwise_append] at hs
 refine ⟨hs.1,⟨h2,hs.2.1⟩,fun a ha b hb => ?_⟩
 rcases List.mem_cons.mp hb with rfl|hb
 ·exact h1 a ha
 ·exact hs.2.2 a ha b hb
theorem Ace {l:List Int} (hl:l.length≤1000000):Ok (Mw l) (fun r=>Asc r∧(∀ x,x∈r↔x∈l)∧r.length≤l.length):=by
 unfold Mw
 refine Ok.guard (by omega) ?_
 refine Ok.range (fun pre s=>Asc s∧(∀ x,x∈s↔x∈pre)∧s.length≤pre.length) ⟨List.Pairwise.nil,by simp,by simp⟩ ?_ fun s h=>Ok.ret h
 intro pre x post s n he ⟨ha,hm,hlen⟩ hn
 have hsl:s.length≤1000000:=by
  have:pre.length≤l.length:=by rw [he]; simp
  omega
 unfold Zj
 refine Ok.while (fun s4=>∃ k:Nat,s4=(k:Int)∧k≤s.length∧∀ y∈s.drop k,x<y) (fun s4=>s4.toNat) ⟨s.length,rfl,Nat.le_refl _,by simp⟩ (by rw [Fa]; omega) ?_
 rintro _ m ⟨k,rfl,hk,hgt⟩ hm4
 have hJ11:∀ r,(Asc r∧(∀ y,y∈r↔y∈pre ++ [x])∧r.length≤(pre ++ [x]).length)→Ok (Ps n r) (fun r=>Asc r∧(∀ x,x∈r↔x∈l)∧r.length≤l.length):=fun r h=>hn r h
 have hJ15:∀ b,(b=true→x∈s)→(b=false→∀ y∈s.take k,y<x)→Ok (My x s n (k:Int) b) (fun r=>Asc r∧(∀ x,x∈r↔x∈l)∧r.length≤l.length):=by
  intro b h1 h2
  unfold My
  refine Ok.ite (fun c => ?_) fun c => ?_
  ·refine hJ11 _ ⟨ha,fun y => ?_,by simp; omega⟩
   rw [hm y,List.mem_append,List.mem_singleton]
   constructor
   ·exact .inl
   ·rintro (h|rfl)
    ·exact h
    ·exact (hm y).mp (h1 c)
  ·have hw:w64 ((k:Int)+1)=((k+1:Nat):Int):=by
    rw [Bb (by omega) (by omega)]
    omega
   have ht:Int.toNat (w64 ((k:Int)+1))=k+1:=by rw [hw]; omega
   have ht0:Int.toNat (k:Int)=k:=by omega
   rw [ht,hw,ht0]
   have hl0:(s ++ [0]).length=s.length+1:=by simp
   have hol:(Oe (s ++ [0]) (k+1) (Hn (Cr (s ++ [0]).length k) (Cr (s ++ [0]).length (k+1))) (((s ++ [0]).drop k).take (Cr (s ++ [0]).length k))).length=s.length+1:=by
    rw [Aih,hl0]
    ·rw [hl0,Ic,Ic,Aax]
     show k+1+min _ _≤_
     omega
    ·rw [List.length_take,List.length_drop,hl0,Ic,Ic,Aax]
     show min _ _≤_
     omega
   refine Ok.guard (by omega) (Ok.guard ⟨by omega,by rw [hl0]; omega⟩ (Ok.guard ⟨by omega,by rw [hl0]; omega⟩ (Ok.guard (by rw [hl0,Ic]; omega) (Ok.guard ⟨by omega,by rw [hol]; omega⟩ (Ok.guard (by rw [hol]; omega) ?_)))))
   rw [put_in hk]
   refine hJ11 _ ⟨asc_put ha (h2 c) hgt,fun y => ?_,by simp; omega⟩
   rw [List.mem_append,List.mem_cons,List.mem_append,List.mem_singleton,← hm y]
   constructor
   ·rintro (h|rfl|h)
    ·exact .inl (List.mem_of_mem_take h)
    ·exact .inr rfl
    ·exact .inl (List.mem_of_mem_drop h)
   ·rintro (h|rfl)
    ·rw [← List.take_append_drop k s,List.mem_append] at h
     rcases h with h|h
     ·exact .inl h
     ·exact .inr (.inr h)
    ·exact .inr (.inl rfl)
 by_cases k0:k=0
 ·subst k0
  unfold Us Nb
  rw [if_neg (by simp),if_neg (by simp),if_neg (by simp)]
  exact hJ15 _ (by simp) (by simp)
 ·have hw:w64 ((k:Int)-1)=((k-1:Nat):Int):=by
   rw [Bb (by omega) (by omega)]
   omega
  have ht:Int.toNat (((k-1:Nat):Int))=k-1:=by omega
  have hkl:k-1<s.length:=by omega
  have hd:s.drop (k-1)=s.getD (k-1) 0::s.drop k:=by
   rw [List.drop_eq_getElem_cons hkl,Gm hkl,Nat.sub_add_cancel (by omega)]
  have htk:s.take k=s.take (k-1) ++ [s.getD (k-1) 0]:=by
   have:k=k-1+1:=by omega
   rw [this,List.take_add_one,Gm (by omega),List.getElem?_eq_getElem (by omega)]
   rfl
  have hlast:∀ y∈s.take (k-1),y<s.getD (k-1) 0:=by
   have hs:Asc (s.take k):=ha.sublist (List.take_sublist _ _)
   rw [htk,Asc,List.pairwise_append] at hs
   intro y hy
   exact hs.2.2 y hy _ (by simp)
  unfold Us
  rw [hw,ht]
  refine Ok.ite (fun _=>Ok.guard ⟨by omega,by omega⟩ (Ok.guard hkl ?_)) fun c=>by simp at c; omega
  unfold Nb
  rw [hw,ht]
  refine Ok.ite (fun c => ?_) fun c => ?_
  ·have hx:x<s.getD (k-1) 0:=by simpa using c
   refine hm4 _ ⟨k-1,rfl,by omega,?_⟩ (by omega)
   rw [hd]
   intro y hy
   rcases List.mem_cons.mp hy with rfl|hy
   ·exact hx
   ·exact hgt y hy
  ·have hx:¬ x<s.getD (k-1) 0:=by simpa using c
   refine Ok.ite (fun _=>Ok.guard ⟨by omega,by omega⟩ (Ok.guard hkl ?_)) fun c=>by simp at c; omega
   refine hJ15 _ (fun c => ?_) (fun c => ?_)
   ·have:s.getD (k-1) 0=x:=by simpa using c
    rw [← this]
    exact Oy hkl
   ·have hne:s.getD (k-1) 0≠x:=by simpa using c
    rw [htk]
    intro y hy
    rcases List.mem_append.mp hy with hy|hy
    ·have:=hlast y hy
     omega
    ·have:y=s.getD (k-1) 0:=by simpa using hy
     omega
theorem Wv {l:List Int} (hl:l.length≤1000000) (ha:Asc l):Mw l=some l :=
 ((Ace hl).mono fun _ ⟨h1,h2,_⟩=>Acf h1 ha h2).eq
theorem le_at {L:List Int} (h:L.Pairwise (· ≤ ·)) {i j:Nat} (hij:i≤j) (hj:j<L.length):L.getD i 0≤L.getD j 0:=by
 by_cases e:i=j
 ·subst e
  omega
 ·rw [Gm hj,Gm (by omega)]
  exact List.pairwise_iff_getElem.mp h i j (by omega) hj (by omega)
theorem Gl {L:List Int} {k:Nat} (h:k<L.length):L.take (k+1)=L.take k ++ [L.getD k 0]:=by
 rw [List.take_add_one,Gm h,List.getElem?_eq_getElem h]
 rfl
theorem Ajx {L:List Int} (hl:L.length≤1000000) (h:L.Pairwise (· ≤ ·)):Ok (Ji L) (fun r=>r.2.length=L.length∧r.1≤L.length∧Asc (r.2.take r.1)∧∀ x,x∈r.2.take r.1↔x∈L):=by
 have whole:Asc L→(L.length,L).2.length=L.length∧(L.length,L).1≤L.length∧Asc ((L.length,L).2.take (L.length,L).1)∧∀ x,x∈(L.length,L).2.take (L.length,L).1↔x∈L:=by
  intro ha
  refine ⟨rfl,Nat.le_refl _,?_,fun x => ?_⟩
  ·show Asc (L.take L.length)
   rw [List.take_length]
   exact ha
  ·show x∈L.take L.length↔x∈L
   rw [List.take_length]
 unfold Ji
 refine Ok.ite (fun c=>Ok.ret (whole ?_)) fun c => ?_
 ·have:L.length<2:=by
   have:((L.length:Nat):Int)<2:=by simpa using c
   omega
  match L,this with
  | [],_=>exact List.Pairwise.nil
  | [a],_=>simp [Asc]
 have hl2:2≤L.length:=by
  have:¬ ((L.length:Nat):Int)<2:=by simpa using c
  omega
 refine Ok.guard (by omega) ?_
 refine Ok.for (fun j _=>Asc (L.take (j+1))) ?_ ?_ ?_
 ·rw [Gl (by omega)]
  simp [Asc]
 ·intro j _ n hj ha hn
  have hj':j+1<L.length:=by omega
  have hw:w64 (1+(j:Int)-1)=(j:Int):=by
   rw [Bb (by omega) (by omega)]
   omega
  have e1:Int.toNat (1+(j:Int))=j+1:=by omega
  have e0:Int.toNat (j:Int)=j:=by omega
  unfold Qi
  rw [hw,e1,e0]
  refine Ok.guard ⟨by omega,by omega⟩ (Ok.guard hj' (Ok.guard ⟨by omega,by omega⟩ (Ok.guard (by omega) ?_)))
  refine Ok.ite (fun c => ?_) fun c => ?_
  ·have heq:L.getD (j+1) 0=L.getD j 0:=by simpa using c
   refine Ok.guard ⟨by omega,by omega⟩ (Ok.guard (by rw [Ic]; omega) ?_)
   refine Ok.for (fun q s=>∃ k:Nat,s.2=(k:Int)∧s.1.length=L.length∧1≤k∧k≤j+1+q∧s.1.drop (j+1+q)=L.drop (j+1+q)∧Asc (s.1.take k)∧(∀ x,x∈s.1.take k↔x∈L.take (j+1+q+1))∧s.1.getD (k-1) 0=L.getD (j+1+q) 0) ?_ ?_ ?_
   ·refine ⟨j+1,by simp only; omega,rfl,by omega,by omega,rfl,ha,fun x => ?_,?_⟩
    ·show x∈L.take (j+1)↔x∈L.take (j+1+0+1)
     rw [Nat.add_zero,Gl (k:=j+1) hj',List.mem_append,heq]
     constructor
     ·exact .inl
     ·rintro (h|h)
      ·exact h
      ·have:x=L.getD j 0:=by simpa using h
       rw [this,Gl (k:=j) (by omega)]
       simp
    ·simp only [Nat.add_sub_cancel,Nat.add_zero]
     exact heq.symm
   ·rintro q ⟨M,k'⟩ m hq ⟨k,e2,hM,k1,hk,hd,hasc,hmem,hlast⟩ hm
    simp only at e2 hM hd hasc hmem hlast
    subst e2
    rw [Ic] at hq
    have hw2:w64 (1+(q:Int)-1)=(q:Int):=by
     rw [Bb (by omega) (by omega)]
     omega
    have e3:Int.toNat (1+(q:Int))=q+1:=by omega
    have e4:Int.toNat (q:Int)=q:=by omega
    have hqL:j+1+q+1<L.length:=by omega
    have hget:∀ i,j+1+q≤i→M.getD i 0=L.getD i 0:=by
     intro i hi
     have h1:M.getD i 0=(M.drop (j+1+q)).getD (i-(j+1+q)) 0:=by
      simp only [List.getD_eq_getElem?_getD,List.getElem?_drop]
      congr 2
      omega
     have h2:L.getD i 0=(L.drop (j+1+q)).getD (i-(j+1+q)) 0:=by
      simp only [List.getD_eq_getElem?_getD,List.getElem?_drop]
      congr 2
      omega
     rw [h1,h2,hd]
    unfold Qn
    simp only
    rw [hw2,e1,e3,e4,Ic,Vr,Vr,hget (j+1+(q+1)) (by omega),hget (j+1+q) (by omega),hM]
    refine Ok.guard ⟨by omega,by omega⟩ (Ok.guard (by omega) (Ok.guard ⟨by omega,by omega⟩ (Ok.guard (by omega) ?_)))
    have hk':Int.toNat (k:Int)=k:=by omega
    have hle:=le_at h (i:=j+1+q) (j:=j+1+(q+1)) (by omega) (by omega)
    have htake:L.take (j+1+(q+1)+1)=L.take (j+1+q+1) ++ [L.getD (j+1+(q+1)) 0]:=Gl (k:=j+1+(q+1)) (by omega)
    have hin:L.getD (j+1+q) 0∈L.take (j+1+q+1):=by
     rw [Gl (by omega)]
     simp
    refine Ok.ite (fun c => ?_) fun c => ?_
    ·have hne:L.getD (j+1+(q+1)) 0≠L.getD (j+1+q) 0:=by simpa using c
     refine Ok.guard ⟨by omega,by omega⟩ (Ok.guard (by omega) (Ok.guard ⟨by omega,by omega⟩ (Ok.guard (by rw [hk']; omega) ?_)))
     rw [hk']
     have hwk:w64 ((k:Int)+1)=((k+1:Nat):Int):=by
      rw [Bb (by omega) (by omega)]
      omega
     have hset:(M.set k (L.getD (j+1+(q+1)) 0)).take (k+1)=M.take k ++ [L.getD (j+1+(q+1)) 0]:=by
      rw [Gl (by rw [List.length_set]; omega),List.take_set_of_le (Nat.le_refl _)]
      congr 2
      rw [List.getD_eq_getElem?_getD,List.getElem?_set_self (by omega)]
      rfl
     refine hm _ ⟨k+1,by rw [hwk],by simp [hM],by omega,by omega,?_,?_,?_,?_⟩
     ·show (M.set k _).drop (j+1+(q+1))=L.drop (j+1+(q+1))
      rw [List.drop_set_of_lt (by omega),show j+1+(q+1)=j+1+q+1 by omega,← List.drop_drop,hd,List.drop_drop]
     ·show Asc ((M.set k _).take (k+1))
      rw [hset,Asc,List.pairwise_append]
      refine ⟨hasc,by simp,fun a ha b hb => ?_⟩
      have hb':b=L.getD (j+1+(q+1)) 0:=by simpa using hb
      have hkk:k=k-1+1:=by omega
      rw [hkk,Gl (by omega),List.mem_append] at ha
      rcases ha with ha|ha
      ·have h2:=hasc
       rw [hkk,Gl (by omega),Asc,List.pairwise_append] at h2
       have:=h2.2.2 a ha _ (List.mem_singleton.mpr rfl)
       omega
      ·have:a=M.getD (k-1) 0:=by simpa using ha
       omega
     ·intro x
      show x∈(M.set k _).take (k+1)↔_
      rw [hset,htake,List.mem_append,List.mem_append,hmem x]
     ·show (M.set k _).getD (k+1-1) 0=_
      rw [Nat.add_sub_cancel,List.getD_eq_getElem?_getD,List.getElem?_set_self (by omega)]
      rfl
    ·have heq2:L.getD (j+1+(q+1)) 0=L.getD (j+1+q) 0:=by simpa using c
     refine hm _ ⟨k,rfl,hM,k1,by omega,?_,hasc,?_,?_⟩
     ·show M.drop (j+1+(q+1))=L.drop (j+1+(q+1))
      rw [show j+1+(q+1)=j+1+q+1 by omega,← List.drop_drop,hd,List.drop_drop]
     ·intro x
      show x∈M.take k↔_
      rw [htake,List.mem_append,hmem x]
      constructor
      ·exact .inl
      ·rintro (h|h)
       ·exact h
       ·have:x=L.getD (j+1+(q+1)) 0:=by simpa using h
        rw [this,heq2]
        exact hin
     ·show M.getD (k-1) 0=_
      rw [hlast]
      exact heq2.symm
   ·rintro ⟨M,k'⟩ ⟨k,e2,hM,k1,hk,hd,hasc,hmem,hlast⟩
    simp only at e2 hM hd hasc hmem hlast
    subst e2
    have hm0:Int.toNat ((((Cr L.length (j+1)):Nat):Int)-1)=L.length-(j+1)-1:=by
     rw [Ic]
     omega
    rw [hm0] at hk hmem
    have hk':Int.toNat (k:Int)=k:=by omega
    unfold Qw
    simp only
    rw [hk',hM,Ic]
    have hfl:(Jr M k (L.length-k) 0).length=L.length:=by
     rw [AaV (by omega),hM]
    refine Ok.guard ⟨by omega,by omega⟩ (Ok.guard (by omega) (Ok.guard ⟨by omega,by rw [hfl]; omega⟩ (Ok.ret ?_)))
    refine ⟨hfl,by show k≤_; omega,?_,?_⟩
    ·show Asc ((Jr M k (L.length-k) 0).take k)
     rw [Zz (by omega)]
     exact hasc
    ·intro x
     show x∈(Jr M k (L.length-k) 0).take k↔x∈L
     rw [Zz (by omega),hmem x,List.take_of_length_le (by omega)]
  ·have hne:L.getD (j+1) 0≠L.getD j 0:=by simpa using c
   refine hn () ?_
   have hle:=le_at h (i:=j) (j:=j+1) (by omega) hj'
   rw [Gl (k:=j+1) hj',Asc,List.pairwise_append]
   refine ⟨ha,by simp,fun a ha' b hb => ?_⟩
   have hb':b=L.getD (j+1) 0:=by simpa using hb
   rw [Gl (by omega),List.mem_append] at ha'
   rcases ha' with ha'|ha'
   ·have h2:=ha
    rw [Gl (by omega),Asc,List.pairwise_append] at h2
    have:=h2.2.2 a ha' _ (List.mem_singleton.mpr rfl)
    omega
   ·have:a=L.getD j 0:=by simpa using ha'
    omega
 ·intro _ ha
  refine Ok.ret (whole ?_)
  have:Int.toNat (((L.length:Nat):Int)-1)+1=L.length:=by omega
  rw [this,List.take_length] at ha
  exact ha
theorem sortU_ok {L:List Int} (hl:L.length≤1000):∃ M,Iu L=some M∧M.length=L.length∧∃ r,Ji M=some r∧r.2.length=M.length∧r.1≤M.length∧Asc (r.2.take r.1)∧∀ x,x∈r.2.take r.1↔x∈L:=by
 obtain ⟨M,h1,h2,h3⟩:=Sort_ok L hl
 have hlen:=h2.length_eq
 obtain ⟨r,g1,g2,g3,g4,g5⟩:=Ajx (L:=M) (by omega) h3
 exact ⟨M,h1,hlen,r,g1,g2,g3,g4,fun x=>(g5 x).trans h2.mem_iff⟩
end Go.Dm

/- Plain theory, part 30: what keeps Fits; all made hierarchies fit. -/
namespace Go.Dm
section
variable {t t':Ae} {fn:Ax→Ax}
end
section
variable {t t':Ae} {p:Int} {s:ByteArray}
end
end Go.Dm

/- Plain theory, part 31: threaded's functions. -/
namespace Go.Dm
theorem AhO {t:Ae} (hm:∀ x∈t.nodes,Aex x) (w:¬ WfT t):Qm t=some false:=by
 obtain ⟨b,hb,e⟩:=Adi t hm
 cases b
 ·exact hb
 ·exact absurd (e.mp rfl) w
end Go.Dm

/- Plain theory, part 32: new groups. -/
namespace Go.Dm
end Go.Dm

/- Plain theory, part 33: controllers are written, groups are made threaded. -/
namespace Go.Dm
end Go.Dm

/- Plain theory, part 34: names of made groups are short. -/
namespace Go.Dm
end Go.Dm

/- Plain theory, part 35: rights of users. -/
namespace Go.Dm
end Go.Dm

/- Plain theory, part 36: acts of users. -/
namespace Go.Dm
theorem Tk (l:List Int) (hl:l.length≤1000000):Hg l l=some true:=by
 unfold Hg
 rw [if_neg (by simp),if_pos (by omega)]
 apply Ok.eq
 refine Ok.range (fun _ _=>True) trivial ?_ fun _ _=>Ok.ret rfl
 intro pre x post s n he _ hn
 unfold AbM
 have hi:pre.length<l.length:=by
  rw [he]
  simp
 rw [if_pos hi]
 have:l.getD pre.length 0=x:=by
  rw [he]
  exact Vf
 rw [this,if_neg (by simp)]
 exact hn () trivial
end Go.Dm

/- Plain theory, part 40: what is read of any hierarchy; processes; hierarchies that were handed in. -/
namespace Go.Dm
end Go.Dm

/- Plain theory of freezers, part 1: what is read; valid freezers. -/
namespace Go.Dm
def zF (g:Int):Frost := { group:=g,want:=false,frozen:=false,changes:=0 }
def frN (f:Acq) (g:Int):Frost:=(f.frosts.find? (fun x=>x.group==g)).getD (zF g)
def wN (t:Ae) (f:Acq) (id:Int):Bool:=(upT t id).any (fun g=>(frN f g).want)
def rN (h:AdX) (f:Acq) (id:Int):Bool:=wN h.tree f id&&h.tasks.all (fun x => !(upT h.tree x.group).contains id||f.stopped.contains x.id)
section
variable {h : AdX} {t:Ae} {f f':Acq}
theorem AcG {pre:List Int} {x:Int} (a:Asc pre) (h1:∀ y∈pre,y<x):Asc (pre ++ [x]):=by
 rw [Asc,List.pairwise_append]
 exact ⟨a,by simp,fun y hy z hz=>by rw [List.mem_singleton.mp hz]; exact h1 y hy⟩
end
end Go.Dm

/- Plain theory of freezers, part 2: what changes make of them. -/
namespace Go.Dm
theorem Zp (l:List Int) (x:Int) (hl:l.length≤9223372036854775807):Gf l x=some (l.contains x):=by
 unfold Gf Nq
 rw [if_pos (by omega),Ou (p:=fun y:Int=>x==y) (fun k y n=>rfl) rfl,Option.bind_some]
 rcases Sw (fun y:Int=>x==y) l 0 with ⟨i,h1,h2,h3⟩|⟨h1,h2⟩
 ·rw [h2]
  have hm:=List.mem_of_find?_eq_some h3
  have he:=List.find?_some h3
  have:l.contains x=true:=by
   rw [List.contains_iff_mem]
   have:x=l.getD i 0:=by simpa using he
   rw [this]
   exact hm
  rw [this]
  simp
 ·rw [h1]
  have:l.contains x=false:=by
   rw [List.find?_eq_none] at h2
   cases hc:l.contains x
   ·rfl
   ·rw [List.contains_iff_mem] at hc
    have:=h2 x hc
    simp at this
  rw [this]
  simp
theorem Add (l:List Int) (x:Int) (hl:l.length≤9223372036854775807):Ns l x=some (l.contains x):=by
 unfold Ns
 rw [if_pos (by omega),AcC (p:=fun y:Int=>y==x) (f:=fun _=>true) (z:=false) (fun k y n=>rfl) rfl]
 congr 1
 cases hf:l.find? (fun y=>y==x) with
 | none =>
  rw [List.find?_eq_none] at hf
  cases hc:l.contains x
  ·rfl
  ·rw [List.contains_iff_mem] at hc
   have:=hf x hc
   simp at this
 | some y =>
  have hm:=List.mem_of_find?_eq_some hf
  have he:=List.find?_some hf
  have:y=x:=by simpa using he
  rw [this] at hm
  simp [hm]
section
variable {h : AdX} {f:Acq}
theorem Qf {l:List Int} (hl:l.length≤1000000):Co l=some l:=by
 unfold Co
 rw [if_pos (by omega)]
end
end Go.Dm

/- Plain theory of processor sets, part 1: settings, sets of small numbers. -/
namespace Go.Dm
set_option linter.unusedVariables false
set_option linter.unusedSimpArgs false
def okSet (n:Int) (L:List Int):Prop:=Asc L∧∀ x∈L,0≤x∧x<n
theorem AgG : ∀ {L:List Int} {a n:Int},Asc L→(∀ x∈L,a≤x∧x<n)→(L.length:Int)≤max 0 (n-a)
 | [],a,n,_,_=>by simp; omega
 | x::r,a,n,h,hb=>by
  rw [Asc,List.pairwise_cons] at h
  have hx:=hb x (by simp)
  have ih:=AgG (L:=r) (a:=x+1) (n:=n) h.2 (fun y hy=>⟨by have:=h.1 y hy; omega,(hb y (by simp [hy])).2⟩)
  simp only [List.length_cons]
  omega
theorem okSet.len {n:Int} {L:List Int} (h:okSet n L) (hn:0≤n):(L.length:Int)≤n:=by
 have:=AgG h.1 h.2
 omega
theorem Ew {m:Option Bool} {rest:Option Bool} {P R:Prop} (h:Ok m (fun b=>b=true↔P)) (k:P→Ok rest (fun b=>b=true↔R)):Ok (Option.bind m fun r=>if r then rest else some false) (fun b=>b=true↔P∧R):=by
 refine Ok.bind h fun r hr=>Ok.ite (fun c => ?_) fun c=>Ok.ret ?_
 ·have hp:=hr.mp c
  exact (k hp).mono fun b hb=>by rw [hb]; simp [hp]
 ·have:¬ P:=fun hp=>by rw [hr.mpr hp] at c; simp at c
  simp [this]
theorem Aai {m:Option Bool} {P:Prop} (h:Ok m (fun b=>b=true↔P)):Ok (Option.bind m fun r=>some r) (fun b=>b=true↔P):=Ok.bind h fun r hr=>Ok.ret hr
theorem Il (a lo hi:Int):Ok (Dd a lo hi) (fun b=>b=true↔(lo≤a∧a≤hi)):=by
 unfold Dd
 exact Ok.ret (by simp)
theorem Ig (a lo hi:Int):Ok (Fy a lo hi) (fun b=>b=true↔((lo≤a∧a≤hi)∨a=4611686018427387904)):=by
 unfold Fy
 exact Ok.ret (by simp)
theorem AgL {pre post:List Int} {x d:Int} (hl:pre.length+1≤9223372036854775807) (h:0<pre.length):w64 (((pre.length:Nat):Int)-1)=((pre.length-1:Nat):Int):=by
 rw [Bb (by omega) (by omega)]
 omega
theorem Pk (L:List Int) (n:Int) (hl:L.length≤9223372036854775807):Ok (Kt L n) (fun b=>b=true↔okSet n L):=by
 unfold Kt
 refine Ok.guard hl ?_
 refine Ok.range (fun pre _=>okSet n pre) ⟨List.Pairwise.nil,fun x hx=>by simp at hx⟩ ?_ fun _ h=>Ok.ret (by simp [h])
 intro pre x post s m he hp hn
 unfold AaX Nn
 have hlen:pre.length+1≤L.length:=by rw [he]; simp
 refine Ok.ite (fun c=>Ok.ret ?_) fun c=>Ok.ite (fun c2=>Ok.ret ?_) fun c2 => ?_
 ·have c:=of_decide_eq_true c
  simp only [Bool.false_eq_true,false_iff]
  intro ⟨_,hb⟩
  have:=hb x (by rw [he]; simp)
  omega
 ·have c2:=of_decide_eq_true c2
  simp only [Bool.false_eq_true,false_iff]
  intro ⟨_,hb⟩
  have:=hb x (by rw [he]; simp)
  omega
 ·have c:=of_decide_eq_false c
  have c2:=of_decide_eq_false c2
  refine Ok.ite (fun c3 => ?_) fun c3 => ?_
  ·have c3:=of_decide_eq_true c3
   have h0:0<pre.length:=by omega
   rw [AgL (post:=post) (x:=x) (d:=0) (by omega) h0]
   refine Ok.guard (by omega) ?_
   have hlast:L.getD (pre.length-1) 0=pre.getD (pre.length-1) 0:=by
    rw [he,List.getD_eq_getElem?_getD,List.getD_eq_getElem?_getD,List.getElem?_append_left (by omega)]
   simp only [Int.toNat_natCast,hlast]
   refine Ok.ite (fun c4=>Ok.ret ?_) fun c4 => ?_
   ·have c4:=of_decide_eq_true c4
    simp only [Bool.false_eq_true,false_iff]
    intro ⟨ha,_⟩
    rw [he,Asc,List.pairwise_append] at ha
    have:=ha.2.2 (pre.getD (pre.length-1) 0) (Oy (by omega)) x (by simp)
    omega
   ·have c4:=of_decide_eq_false c4
    refine hn () ⟨?_,fun y hy => ?_⟩
    ·refine AcG hp.1 fun y hy => ?_
     obtain ⟨j,hj,rfl⟩:=List.getElem_of_mem hy
     have hle:pre[j]≤pre.getD (pre.length-1) 0:=by
      have:=le_at (L:=pre) (hp.1.imp (fun h=>Int.le_of_lt h)) (i:=j) (j:=pre.length-1) (by omega) (by omega)
      rwa [Gm hj] at this
     omega
    ·rcases List.mem_append.mp hy with h|h
     ·exact hp.2 y h
     ·simp at h; subst h; omega
  ·have c3:=of_decide_eq_false c3
   have h0:pre = []:=List.eq_nil_of_length_eq_zero (by omega)
   subst h0
   refine Ok.ite (fun c=>by simp at c) fun _=>hn () ⟨by simp [Asc],fun y hy=>by simp at hy; subst hy; omega⟩
theorem Abh (m:Ih):∃ b,Dt m=some b:=by
 obtain ⟨b,h,_⟩:Ok (Dt m) (fun _=>True):=by
  unfold Dt Hf
  refine Ok.bind (Ig _ _ _) fun _ _=>Ok.ite (fun _ => ?_) fun _=>Ok.ret trivial
  refine Ok.bind (Ig _ _ _) fun _ _=>Ok.ite (fun _ => ?_) fun _=>Ok.ret trivial
  refine Ok.bind (Ig _ _ _) fun _ _=>Ok.ite (fun _ => ?_) fun _=>Ok.ret trivial
  refine Ok.bind (Ig _ _ _) fun _ _=>Ok.ite (fun _ => ?_) fun _=>Ok.ret trivial
  exact Ok.bind (Ig _ _ _) fun _ _=>Ok.ret trivial
 exact ⟨b,h⟩
theorem Aba (L:List Bf) (hl:L.length≤9223372036854775807):∃ b,Dj L=some b:=by
 obtain ⟨b,h,_⟩:Ok (Dj L) (fun _=>True):=by
  unfold Dj
  refine Ok.guard hl ?_
  refine Ok.range (fun _ _=>True) trivial ?_ fun _ _=>Ok.ret trivial
  intro pre x post s n he _ hn
  have hlen:pre.length+1≤L.length:=by rw [he]; simp
  have hj:∀ b,Ok (Bj n b) (fun _=>True):=by
   intro b
   unfold Bj
   exact Ok.ite (fun _=>Ok.ret trivial) fun _=>hn () trivial
  unfold Th
  refine Ok.ite (fun _=>hj _) fun _=>Ok.ite (fun _=>hj _) fun _=>Ok.ite (fun c3 => ?_) fun _ => ?_
  ·have c3:=of_decide_eq_true c3
   refine Ok.guard (by rw [Bb (by omega) (by omega)]; omega) ?_
   refine Ok.ite (fun _=>hj _) fun _=>Ok.ite (fun _=>hj _) fun _=>Ok.ite (fun _=>hj _) fun _ => ?_
   refine Ok.bind (Ig _ _ _) fun _ _=>Ok.ite (fun _=>hj _) fun _ => ?_
   refine Ok.bind (Ig _ _ _) fun _ _=>Ok.ite (fun _=>hj _) fun _ => ?_
   refine Ok.bind (Ig _ _ _) fun _ _=>Ok.ite (fun _=>hj _) fun _ => ?_
   refine Ok.bind (Ig _ _ _) fun _ _=>Ok.ite (fun _=>hj _) fun _ => ?_
   exact Ok.ite (fun _=>hj _) fun _=>hj _
  ·refine Ok.ite (fun _=>hj _) fun _=>Ok.ite (fun _=>hj _) fun _ => ?_
   refine Ok.bind (Ig _ _ _) fun _ _=>Ok.ite (fun _=>hj _) fun _ => ?_
   refine Ok.bind (Ig _ _ _) fun _ _=>Ok.ite (fun _=>hj _) fun _ => ?_
   refine Ok.bind (Ig _ _ _) fun _ _=>Ok.ite (fun _=>hj _) fun _ => ?_
   refine Ok.bind (Ig _ _ _) fun _ _=>Ok.ite (fun _=>hj _) fun _ => ?_
   exact Ok.ite (fun _=>hj _) fun _=>hj _
 exact ⟨b,h⟩
def BandP (s:At):Prop:=(1≤s.period∧s.period≤1000000)∧if s.quota=4611686018427387904 then s.burst=0 else (1≤s.quota∧s.quota≤1000000)∧0≤s.burst∧s.burst≤s.quota
theorem Adh (s:At):Ok (Jk s) (fun b=>b=true↔BandP s):=by
 unfold Jk Ka Io BandP
 refine Ok.ite (fun c => ?_) fun c => ?_
 ·have c:=beq_iff_eq.mp c
  rw [if_pos c]
  exact Ew (Il _ _ _) fun _=>Ok.ret (by simp)
 ·have c:¬ s.quota=4611686018427387904:=by simpa using c
  rw [if_neg c]
  exact Ew (Il _ _ _) fun _=>Ew (Il _ _ _) fun _=>Aai (Il _ _ _)
def RestP (s:At):Prop :=
 (1≤s.weight∧s.weight≤10000)∧BandP s∧(0≤s.clampMin∧s.clampMin≤10000)∧(0≤s.clampMax∧s.clampMax≤10000)∧okSet 16 s.cpus∧okSet 8 s.mems∧(0≤s.partition∧s.partition≤1) ∧
 Dt s.memory=some true∧Dj s.devices=some true
def CheckP (s:At):Prop:=(s.pidsMax=4611686018427387904∨(0≤s.pidsMax∧s.pidsMax≤1099511627776))∧RestP s
structure Cz (s:At):Prop where
 cpus:s.cpus.length≤1000000
 mems:s.mems.length≤1000000
 devices:s.devices.length≤1000000
theorem Aey {m:Option Bool} (h:∃ b,m=some b):Ok m (fun b=>b=true↔m=some true):=by
 obtain ⟨b,h⟩:=h
 exact ⟨b,h,by rw [h]; simp⟩
theorem Aeh {s:At} (hs:Cz s):Ok (Pj s) (fun b=>b=true↔CheckP s):=by
 have h1:=hs.cpus
 have h2:=hs.mems
 have h3:=hs.devices
 unfold Pj Ca CheckP
 refine Ok.ite (fun c => ?_) fun c => ?_
 ·have c:=beq_iff_eq.mp c
  have:(s.pidsMax=4611686018427387904∨(0≤s.pidsMax∧s.pidsMax≤1099511627776))↔True:=by simp [c]
  rw [this,true_and]
  exact Ew (Il _ _ _) fun _=>Ew (Adh s) fun _=>Ew (Il _ _ _) fun _=>Ew (Il _ _ _) fun _=>Ew (Pk _ _ (by omega)) fun _ =>
   Ew (Pk _ _ (by omega)) fun _=>Ew (Il _ _ _) fun _=>Ew (Aey (Abh _)) fun _=>Aai (Aey (Aba _ (by omega)))
 ·have c:¬ s.pidsMax=4611686018427387904:=by simpa using c
  have:(s.pidsMax=4611686018427387904∨(0≤s.pidsMax∧s.pidsMax≤1099511627776))↔(0≤s.pidsMax∧s.pidsMax≤1099511627776):=by simp [c]
  rw [this]
  exact Ew (Il _ _ _) fun _=>Ew (Il _ _ _) fun _=>Ew (Adh s) fun _=>Ew (Il _ _ _) fun _=>Ew (Il _ _ _) fun _=>Ew (Pk _ _ (by omega)) fun _ =>
   Ew (Pk _ _ (by omega)) fun _=>Ew (Il _ _ _) fun _=>Ew (Aey (Abh _)) fun _=>Aai (Aey (Aba _ (by omega)))
def dfS : At := { pidsMax:=4611686018427387904,weight:=100,quota:=4611686018427387904,period:=100000,burst:=0,clampMin:=0,clampMax:=10000,cpus := [],mems := [],partition:=0,memory := { min:=0,low:=0,high:=4611686018427387904,max:=4611686018427387904,swapMax:=4611686018427387904,together:=false },devices := [] }
def cfg (l:List Ab) (g:Int):At:=(l.find? (fun x=>x.group==g)).elim dfS (·.settings)
theorem AfS : CheckP dfS:=by
 have e1:Dt dfS.memory=some true:=by kernel_rfl
 have e2:Dj dfS.devices=some true:=by kernel_rfl
 refine ⟨.inl rfl,⟨by simp [dfS],by simp [dfS]⟩,?_,by simp [dfS],by simp [dfS],⟨List.Pairwise.nil,fun x hx=>by simp [dfS] at hx⟩,⟨List.Pairwise.nil,fun x hx=>by simp [dfS] at hx⟩,by simp [dfS],e1,e2⟩
 unfold BandP
 simp [dfS]
theorem AdM : Cz dfS:=⟨by simp [dfS],by simp [dfS],by simp [dfS]⟩
theorem Ahx {s:At} (h:Cz s):Ws s=some s:=by
 have h1:=h.cpus
 have h2:=h.mems
 have h3:=h.devices
 unfold Ws
 rw [if_pos (by omega),if_pos (by omega),if_pos (by omega)]
theorem AfA {s:At} (h:Cz s):Qz s=some s:=by
 have h1:=h.cpus
 have h2:=h.mems
 have h3:=h.devices
 unfold Qz Fm
 rw [Qf (by omega),Option.bind_some,Qf (by omega),Option.bind_some,if_pos (by omega),Option.bind_some]
theorem Wh {l:List Ab} (hl:l.length≤1000000) (h:∀ x∈l,Cz x.settings) (g:Int):Jl l g=some (cfg l g):=by
 unfold Jl
 rw [if_pos (by omega)]
 apply Ok.eq
 refine Ok.range (fun pre _=>∀ x∈pre,(x.group==g)=false) (by simp) ?_ ?_
 ·intro pre x post s n he hp hn
  unfold Ya
  refine Ok.ite (fun c => ?_) fun c=>hn () ?_
  ·rw [Ahx (h x (by rw [he]; simp)),Option.bind_some]
   refine Ok.ret ?_
   have hf:l.find? (fun x=>x.group==g)=some x:=by
    rw [he,List.find?_append,List.find?_eq_none.mpr (fun y hy=>by rw [hp y hy]; simp),Option.none_or,List.find?_cons,c]
   unfold cfg
   rw [hf]
   rfl
  ·intro y hy
   rcases List.mem_append.mp hy with h|h
   ·exact hp y h
   ·simp at h; subst h; exact c
 ·intro s hp
  refine Ok.of_eq (b:=dfS) rfl ?_
  have hf:l.find? (fun x=>x.group==g)=none:=List.find?_eq_none.mpr (fun y hy=>by rw [hp y hy]; simp)
  unfold cfg
  rw [hf]
  rfl
theorem Xf {l:List Ab} (hl:l.length≤1000000) (h:∀ x∈l,Cz x.settings) (g:Int):Nm l g=some (cfg l g):=by
 unfold Nm Xz Fs
 rw [if_pos (by omega),Ou (p:=fun x:Ab=>x.group==g) (fun k x n=>by
  unfold Gz Uw
  rw [Option.bind_some]) rfl,Option.bind_some,Option.bind_some]
 rcases Sw (fun x:Ab=>x.group==g) l default with ⟨i,h1,h2,h3⟩|⟨h1,h2⟩
 ·rw [h2,Option.elim_some,if_neg (by simp),if_pos (by omega)]
  simp only [Int.toNat_natCast]
  rw [AfA (h _ (Oy h1)),Option.bind_some]
  unfold cfg
  rw [h3]
  rfl
 ·rw [h1,Option.elim_none,if_pos (by simp)]
  unfold cfg
  rw [h2]
  rfl
end Go.Dm

/- Plain theory of processor sets, part 2: what is within, in both, in one alone; settings that fit. -/
namespace Go.Dm
set_option linter.unusedVariables false
set_option linter.unusedSimpArgs false
theorem Tr {L:List Int} (p:Int→Bool) (h:Asc L):Asc (L.filter p):=h.sublist List.filter_sublist
theorem AbU (L:List Int) (x:Int) (hl:L.length≤9223372036854775807):Vc L x=some (L.contains x):=by
 unfold Vc
 rw [Zp L x hl,Option.bind_some]
theorem AgO {A B:List Int} (ha:A.length≤1000000) (hb:B.length≤9223372036854775807):Rn A B=some (A.all (fun x=>B.contains x)):=by
 unfold Rn Ft Gh
 rw [if_pos (by omega),Ou (p:=fun x:Int => !B.contains x) (fun k x n=>by
  unfold Ht Uq
  rw [AbU _ _ hb,Option.bind_some,Option.bind_some]) rfl,Option.bind_some,Option.bind_some]
 rcases Sw (fun x:Int => !B.contains x) A 0 with ⟨i,h1,h2,h3⟩|⟨h1,h2⟩
 ·rw [h2,Option.elim_some]
  congr 1
  have hx:=List.find?_some h3
  have:A.all (fun x=>B.contains x)=false:=by
   rw [Bool.eq_false_iff]
   intro hall
   rw [List.all_eq_true] at hall
   have:=hall _ (List.mem_of_find?_eq_some h3)
   rw [this] at hx
   simp at hx
  rw [this]
  simp
 ·rw [h1,Option.elim_none]
  congr 1
  have:A.all (fun x=>B.contains x)=true:=by
   rw [List.all_eq_true]
   intro x hx
   rw [List.find?_eq_none] at h2
   have:=h2 x hx
   simpa using this
  rw [this]
  rfl
theorem AgD {L:List Int} (hl:L.length≤1000):Ok (Ox L) (fun r=>Asc r∧(∀ x,x∈r↔x∈L)∧r.length≤L.length):=by
 unfold Ox
 obtain ⟨M,m1,m2,r,r1,r2,r3,r4,r5⟩:=sortU_ok hl
 rw [Qf (by omega),Option.bind_some,m1,Option.bind_some,if_pos m2.symm,r1,Option.bind_some,if_pos r2.symm,if_pos (by omega)]
 refine Ok.ret ⟨r4,r5,?_⟩
 rw [List.length_take]
 omega
theorem Abl {L:List Int} (hl:L.length≤1000) (h:Asc L):Ox L=some L:=by
 obtain ⟨r,h1,h2,h3,_⟩:=AgD hl
 rw [h1,Acf h2 h h3]
theorem Adf {B:List Int} (hb:B.length≤9223372036854775807) (x:Int):Gd x B=some (B.contains x):=by
 unfold Gd Wu
 rw [AbU _ _ hb,Option.bind_some,Option.bind_some,Bool.not_not]
theorem Adg {B:List Int} (hb:B.length≤9223372036854775807) (x:Int):Er x B=some (!B.contains x):=by
 unfold Er Qs
 rw [AbU _ _ hb,Option.bind_some,Option.bind_some]
theorem Afu {B:List Int} (hb:B.length≤9223372036854775807) (L:List Int) (h2:L.length≤1000000) :
  Ok (Cu L B) (fun r=>r.2.1.length=L.length∧r.1≤L.length∧r.2.1.take r.1=L.filter (fun x => !B.contains x)∧r.2.2=B):=by
 unfold Cu Dy
 rw [if_pos (by omega),Ou (p:=fun x=>B.contains x) (fun k x n=>by
  unfold Ey
  rw [Adf hb,Option.bind_some]) rfl]
 refine Ok.step rfl ?_
 rcases Sw (fun x=>B.contains x) L 0 with ⟨i,h1,h2',h3⟩|⟨h1,h2'⟩
 ·rw [h2',Option.elim_some]
  refine Ok.ite (fun c=>by have:=beq_iff_eq.mp c; omega) fun _ => ?_
  have e1:w64 ((i:Int)+1)=((i+1:Nat):Int):=by
   rw [Bb (by omega) (by omega)]
   omega
  rw [e1]
  have hh:=List.findIdx?_eq_some_iff_getElem.mp h2'
  obtain ⟨g1,g2,g3⟩:=hh
  refine AeW (p:=fun x=>B.contains x) (d:=0) h2 h1 ?_ ?_ ?_ ?_
  ·intro x hx
   obtain ⟨j,hj,rfl⟩:=List.getElem_of_mem hx
   rw [List.length_take] at hj
   rw [List.getElem_take]
   have:=g3 j (by omega)
   simpa using this
  ·rw [Gm h1]
   exact g2
  ·intro M i j n hM hij hj hn
   unfold Dr Cp
   simp only
   have ei:Int.toNat (i:Int)=i:=by omega
   have ej:Int.toNat (j:Int)=j:=by omega
   rw [ei,ej]
   refine Ok.ite (fun _ => ?_) fun c=>by
    have:=of_decide_eq_false c
    omega
   refine Ok.guard (by omega) (Ok.guard (by omega) ?_)
   rw [Adf hb,Option.bind_some]
   have ej1:w64 ((j:Int)+1)=((j+1:Nat):Int):=by
    rw [Bb (by omega) (by omega)]
    omega
   have ei1:w64 ((i:Int)+1)=((i+1:Nat):Int):=by
    rw [Bb (by omega) (by omega)]
    omega
   rw [ej1,ei1]
   refine Ok.ite (fun c => ?_) fun c => ?_
   ·refine Ok.guard (by omega) (Ok.guard (by omega) (hn _ ?_))
    rw [if_neg]
    simpa using c
   ·refine hn _ ?_
    rw [if_pos]
    rw [Bool.not_eq_false'] at c
    exact c
  ·intro M i n hM hi ht
   unfold Dr
   simp only
   have ei:Int.toNat (i:Int)=i:=by omega
   rw [ei,Ic]
   refine Ok.ite (fun c=>by have:=of_decide_eq_true c; omega) fun _ => ?_
   have hfl:(Jr M i (M.length-i) (0:Int)).length=M.length:=AaV (by omega)
   refine Ok.guard (by omega) (Ok.guard (by omega) (Ok.guard (by rw [hfl]; omega) (Ok.ret ⟨by simp only; rw [hfl,hM],hi,?_,rfl⟩)))
   simp only
   rw [Zz (by omega),ht]
 ·rw [h1,Option.elim_none]
  refine Ok.ite (fun _=>Ok.ret ⟨rfl,Nat.le_refl _,?_,rfl⟩) fun c=>by simp at c
  simp only [List.take_length]
  symm
  rw [List.filter_eq_self]
  intro x hx
  rw [List.find?_eq_none] at h2'
  have:=h2' x hx
  simpa using this
theorem AfF {B:List Int} (hb:B.length≤9223372036854775807) (L:List Int) (h2:L.length≤1000000) :
  Ok (Ck L B) (fun r=>r.2.1.length=L.length∧r.1≤L.length∧r.2.1.take r.1=L.filter (fun x=>B.contains x)∧r.2.2=B):=by
 have hff:L.filter (fun x => !(!B.contains x))=L.filter (fun x=>B.contains x):=by
  congr 1
  funext x
  simp
 unfold Ck Dl
 rw [if_pos (by omega),Ou (p:=fun x => !B.contains x) (fun k x n=>by
  unfold Em
  rw [Adg hb,Option.bind_some]) rfl]
 refine Ok.step rfl ?_
 rcases Sw (fun x => !B.contains x) L 0 with ⟨i,h1,h2',h3⟩|⟨h1,h2'⟩
 ·rw [h2',Option.elim_some]
  refine Ok.ite (fun c=>by have:=beq_iff_eq.mp c; omega) fun _ => ?_
  have e1:w64 ((i:Int)+1)=((i+1:Nat):Int):=by
   rw [Bb (by omega) (by omega)]
   omega
  rw [e1]
  have hh:=List.findIdx?_eq_some_iff_getElem.mp h2'
  obtain ⟨g1,g2,g3⟩:=hh
  refine AeW (p:=fun x => !B.contains x) (d:=0) h2 h1 ?_ ?_ ?_ ?_
  ·intro x hx
   obtain ⟨j,hj,rfl⟩:=List.getElem_of_mem hx
   rw [List.length_take] at hj
   rw [List.getElem_take]
   have:=g3 j (by omega)
   simpa using this
  ·rw [Gm h1]
   exact g2
  ·intro M i j n hM hij hj hn
   unfold Dc Ci
   simp only
   have ei:Int.toNat (i:Int)=i:=by omega
   have ej:Int.toNat (j:Int)=j:=by omega
   rw [ei,ej]
   refine Ok.ite (fun _ => ?_) fun c=>by
    have:=of_decide_eq_false c
    omega
   refine Ok.guard (by omega) (Ok.guard (by omega) ?_)
   rw [Adg hb,Option.bind_some]
   have ej1:w64 ((j:Int)+1)=((j+1:Nat):Int):=by
    rw [Bb (by omega) (by omega)]
    omega
   have ei1:w64 ((i:Int)+1)=((i+1:Nat):Int):=by
    rw [Bb (by omega) (by omega)]
    omega
   rw [ej1,ei1]
   refine Ok.ite (fun c => ?_) fun c => ?_
   ·refine Ok.guard (by omega) (Ok.guard (by omega) (hn _ ?_))
    rw [if_neg]
    simpa using c
   ·refine hn _ ?_
    rw [if_pos]
    rw [Bool.not_eq_false'] at c
    exact c
  ·intro M i n hM hi ht
   unfold Dc
   simp only
   have ei:Int.toNat (i:Int)=i:=by omega
   rw [ei,Ic]
   refine Ok.ite (fun c=>by have:=of_decide_eq_true c; omega) fun _ => ?_
   have hfl:(Jr M i (M.length-i) (0:Int)).length=M.length:=AaV (by omega)
   refine Ok.guard (by omega) (Ok.guard (by omega) (Ok.guard (by rw [hfl]; omega) (Ok.ret ⟨by simp only; rw [hfl,hM],hi,?_,rfl⟩)))
   simp only
   rw [Zz (by omega),ht]
   exact hff
 ·rw [h1,Option.elim_none]
  refine Ok.ite (fun _=>Ok.ret ⟨rfl,Nat.le_refl _,?_,rfl⟩) fun c=>by simp at c
  simp only [List.take_length]
  symm
  rw [List.filter_eq_self]
  intro x hx
  rw [List.find?_eq_none] at h2'
  have:=h2' x hx
  simpa using this
def Lf (A B:List Int):List Int:=A.filter (fun x => !B.contains x)
def Re (A B:List Int):List Int:=A.filter (fun x=>B.contains x)
def Lk (A B:List Int):List Int:=if (Re A B).length>0 then Re A B else B
theorem Ahp {A B:List Int} (h:Asc A) (ha:A.length≤1000) (hb:B.length≤9223372036854775807):Tx A B=some (Lf A B):=by
 unfold Tx Kj
 obtain ⟨r,d1,d2,d3,d4,d5⟩:=Afu hb A (by omega)
 rw [Abl ha h,Option.bind_some,d1,Option.bind_some,if_pos d2.symm,if_pos (by omega),Option.bind_some,d4]
 rfl
theorem AeJ {A B:List Int} (h:Asc A) (ha:A.length≤1000) (hb:B.length≤9223372036854775807):Pz A B=some (Re A B):=by
 unfold Pz Iy
 obtain ⟨r,d1,d2,d3,d4,d5⟩:=AfF hb A (by omega)
 rw [Abl ha h,Option.bind_some,d1,Option.bind_some,if_pos d2.symm,if_pos (by omega),Option.bind_some,d4]
 rfl
theorem Ain {A B:List Int} (h:Asc A) (ha:A.length≤1000) (hb:B.length≤1000):Pp A B=some (Lk A B):=by
 unfold Pp Lk
 rw [AeJ h ha (by omega),Option.bind_some]
 by_cases c:(Re A B).length>0
 ·rw [if_pos c,if_pos (by simpa using c)]
 ·rw [if_neg c,if_neg (by simpa using c),Qf (by omega),Option.bind_some]
structure FitsS (t:Ae) (l:List Ab):Prop where
 wf:WfT t
 grp:l.map (·.group)=t.nodes.map (·.id)
 chk:∀ x∈l,CheckP x.settings
theorem FitsS.len {t:Ae} {l:List Ab} (f:FitsS t l):l.length=t.nodes.length:=by
 have:=congrArg List.length f.grp
 simpa using this
theorem AeN {t:Ae} {l:List Ab} (hm:∀ x∈t.nodes,Aex x) (ht:t.nodes.length≤1000000) (hl:l.length≤1000000) (hs:∀ x∈l,Cz x.settings):Ok (Ri t l) (fun b=>b=true↔FitsS t l):=by
 unfold Ri
 by_cases w:WfT t
 ·rw [AhP w,Option.bind_some,if_neg (by simp)]
  unfold Lw
  refine Ok.ite (fun c=>Ok.ret ?_) fun c => ?_
  ·have c:¬ ((l.length:Nat):Int)=((t.nodes.length:Nat):Int):=by simpa using c
   simp only [Bool.false_eq_true,false_iff]
   intro f
   have:=f.len
   omega
  ·have hlen:l.length=t.nodes.length:=by
    have c:((l.length:Nat):Int)=((t.nodes.length:Nat):Int):=by simpa using c
    omega
   refine Ok.guard (by omega) ?_
   refine Ok.range (fun pre _=>(l.take pre.length).map (·.group)=pre.map (·.id)∧∀ x∈l.take pre.length,CheckP x.settings) ⟨by simp,by simp⟩ ?_ ?_
   ·intro pre x post s n he hp hn
    unfold Wf Ny
    have hpl:pre.length+1≤t.nodes.length:=by rw [he]; simp
    have htk:l.take (pre.length+1)=l.take pre.length ++ [l.getD pre.length default]:=by
     rw [List.take_add_one,List.getElem?_eq_getElem (by omega),Option.toList_some,Gm (by omega)]
    have hmem:l.getD pre.length default∈l:=Oy (by omega)
    have hx:t.nodes.getD pre.length default=x:=by rw [he]; exact Vf
    refine Ok.guard (by omega) (Ok.ite (fun c=>Ok.ret ?_) fun c=>Ok.guard (by omega) ?_)
    ·have c:¬ (l.getD pre.length default).group=x.id:=by simpa using c
     simp only [Bool.false_eq_true,false_iff]
     intro f
     apply c
     have:=congrArg (fun q=>q[pre.length]?) f.grp
     simp only [List.getElem?_map] at this
     rw [List.getElem?_eq_getElem (by omega),List.getElem?_eq_getElem (by omega)] at this
     simp only [Option.map_some,Option.some.injEq] at this
     rw [Gm (by omega),this,← Gm (d:=default) (by omega),hx]
    ·have c:(l.getD pre.length default).group=x.id:=by simpa using c
     obtain ⟨b,hb,hbi⟩:=Aeh (hs _ hmem)
     rw [hb,Option.bind_some]
     refine Ok.ite (fun c2=>Ok.ret ?_) fun c2=>hn () ⟨?_,?_⟩
     ·simp only [Bool.false_eq_true,false_iff]
      intro f
      rw [hbi.mpr (f.chk _ hmem)] at c2
      simp at c2
     ·rw [List.length_append,List.length_singleton,htk,List.map_append,List.map_append,hp.1,List.map_singleton,List.map_singleton,c]
     ·rw [List.length_append,List.length_singleton,htk]
      intro y hy
      rcases List.mem_append.mp hy with h|h
      ·exact hp.2 y h
      ·simp only [List.mem_singleton] at h
       subst h
       exact hbi.mp (by simpa using c2)
   ·intro s hp
    refine Ok.of_eq (b:=true) rfl ?_
    have:l.take t.nodes.length=l:=List.take_of_length_le (by omega)
    rw [this] at hp
    simp only [true_iff]
    exact ⟨w,hp.1,hp.2⟩
 ·rw [AhO hm w,Option.bind_some,if_pos (by simp)]
  unfold Lw
  rw [if_pos rfl]
  exact Ok.ret (by simp only [Bool.false_eq_true,false_iff]; exact fun f=>w f.wf)
structure Acl (t:Ae) (l:List Ab) (on:List Int) (n:Int):Prop where
 fits:FitsS t l
 pos:0<on.length
 set:okSet n on
theorem Aao {t:Ae} {l:List Ab} {on:List Int} {n:Int} (hm:∀ x∈t.nodes,Aex x) (ht:t.nodes.length≤1000000) (hl:l.length≤1000000) (hs:∀ x∈l,Cz x.settings) (ho:on.length≤9223372036854775807) :
  Ok (Hz t l on n) (fun b=>b=true↔Acl t l on n):=by
 unfold Hz Lr
 have h:=Ew (AeN hm ht hl hs) (R:=0<on.length∧okSet n on) (rest:=(if (decide (((on.length:Nat):Int)>0)) then (Option.bind (Kt on n) fun r4=>some r4) else some false)) fun _=>by
  refine Ok.ite (fun c => ?_) fun c=>Ok.ret ?_
  ·have c:0<on.length:=by have:=of_decide_eq_true c; omega
   refine (Aai (Pk on n ho)).mono fun b hb => ?_
   rw [hb]
   simp [c]
  ·have c:=of_decide_eq_false c
   simp only [Bool.false_eq_true,false_iff]
   intro ⟨h,_⟩
   omega
 exact h.mono fun b hb=>hb.trans ⟨fun ⟨a,b,c⟩=>⟨a,b,c⟩,fun u=>⟨u.fits,u.pos,u.set⟩⟩
end Go.Dm

/- Plain theory of processor sets, part 3: how a group's share is divided. -/
namespace Go.Dm
set_option linter.unusedVariables false
set_option linter.unusedSimpArgs false
theorem AgZ {S R:Type} {B:Int→S→(S→Option R)→Option R} {D:S→Option R} {r:R} (I:(Int→Bool)→S→Prop)
  (step:∀ rem s n N,rem n=true→I rem s→(∀ s',I (Bg rem n false) s'→N s'=some r)→B n s N=some r) (fin:∀ s,I (fun _=>false) s→D s=some r) :
  ∀ (m:Nat) (ks:List Int) (rem:Int→Bool) (s:S),ks.Nodup→ks.length<m→(∀ n,rem n=true↔n∈ks)→I rem s→rangeM B D m rem s=some r:=by
 intro m
 induction m with
 | zero=>intro ks rem s _ h; omega
 | succ m ih =>
  intro ks rem s hn hl hr hi
  rw [rangeM]
  by_cases h0:∀ n,rem n=false
  ·rw [if_pos h0]
   have:rem=fun _=>false:=funext h0
   subst this
   exact fin s hi
  ·rw [if_neg h0]
   have key:∀ n,rem n=true→B n s (rangeM B D m (Bg rem n false))=some r:=by
    intro n hrn
    have hnk:=(hr n).mp hrn
    refine step rem s n _ hrn hi fun s' hi' => ?_
    refine ih (ks.filter (fun k=>k != n)) (Bg rem n false) s' (hn.sublist List.filter_sublist) ?_ (fun k => ?_) hi'
    ·have:(ks.filter (fun k=>k != n)).length<ks.length:=by
      apply List.length_filter_lt_length_iff_exists.mpr
      exact ⟨n,hnk,by simp⟩
     omega
    ·simp only [Bg,List.mem_filter,bne_iff_ne,ne_eq]
     split
     ·rename_i e; subst e; simp
     ·rename_i e; rw [hr k]; simp [e]
   have hex:∃ r,∀ n,rem n=true→B n s (rangeM B D m (Bg rem n false))=some r:=⟨r,key⟩
   rw [dif_pos hex]
   have h1:∃ n,rem n=true:=by
    by_cases h:∃ n,rem n=true
    ·exact h
    ·exact absurd (fun n=>by
      cases hq:rem n with
      | false=>rfl
      | true=>exact absurd ⟨n,hq⟩ h) h0
   obtain ⟨n,hn1⟩:=h1
   have:=hex.choose_spec n hn1
   rw [key n hn1] at this
   exact this.symm
def Uu (al:Bool) (left:List Int) (s:At):Bool:=s.partition==1&&al&&decide (0<s.cpus.length)&&s.cpus.all (fun x=>left.contains x)&&decide (s.cpus.length<left.length)
def Bn (l:List Ab) (al:Bool):List Int→List Int→List Int×List Int
 | [],left=>(left,[])
 | c::r,left=>if Uu al left (cfg l c) then ((Bn l al r (Lf left (cfg l c).cpus)).1,c::(Bn l al r (Lf left (cfg l c).cpus)).2) else Bn l al r left
theorem Vp {l:List Ab} {al:Bool} {x:Int} : ∀ (pre:List Int) (left:List Int),
  Bn l al (pre ++ [x]) left=if Uu al (Bn l al pre left).1 (cfg l x) then (Lf (Bn l al pre left).1 (cfg l x).cpus,(Bn l al pre left).2 ++ [x]) else Bn l al pre left
 | [],left=>by
  by_cases h:Uu al left (cfg l x)=true <;> simp [Bn,h]
 | c::r,left=>by
  rw [List.cons_append,Bn,Vp r left,Vp r (Lf left (cfg l c).cpus)]
  rw [Bn]
  by_cases h:Uu al left (cfg l c)=true
  ·rw [if_pos h,if_pos h]
   simp only
   split <;> simp
  ·rw [if_neg h,if_neg h]
theorem Lz {l:List Ab} {al:Bool} : ∀ (ks left:List Int),(∀ x∈(Bn l al ks left).1,x∈left)∧(∀ c∈(Bn l al ks left).2,c∈ks)∧(Asc left→Asc (Bn l al ks left).1)
 | [],left=>by simp [Bn]
 | c::r,left=>by
  rw [Bn]
  by_cases h:Uu al left (cfg l c)=true
  ·rw [if_pos h]
   obtain ⟨h1,h2,h3⟩:=Lz r (Lf left (cfg l c).cpus) (l:=l) (al:=al)
   refine ⟨fun x hx=>(List.mem_filter.mp (h1 x hx)).1,fun d hd => ?_,fun ha=>h3 (Tr _ ha)⟩
   rcases List.mem_cons.mp hd with rfl|hd
   ·simp
   ·simp [h2 d hd]
  ·rw [if_neg h]
   obtain ⟨h1,h2,h3⟩:=Lz r left (l:=l) (al:=al)
   exact ⟨h1,fun d hd=>by simp [h2 d hd],h3⟩
def Aeo (t:Ae) (l:List Ab) (g:Int) (s:List Int) (al:Bool):List Int:=(Bn l al (Bi t g) s).1
def Og (t:Ae) (l:List Ab) (g:Int) (s:List Int) (al:Bool):List Int:=(Bn l al (Bi t g) s).2
def stC (t:Ae) (l:List Ab) (on:List Int):List Int→List Int×Bool
 | []=>([],false)
 | [_]=>(on,false)
 | c::p::r =>
  if (Og t l p (stC t l on (p::r)).1 (p==1||(stC t l on (p::r)).2)).contains c then ((cfg l c).cpus,true)
  else (Lk (cfg l c).cpus (Aeo t l p (stC t l on (p::r)).1 (p==1||(stC t l on (p::r)).2)),false)
def Cd (t:Ae) (l:List Ab) (on:List Int) (g:Int):List Int:=(stC t l on (upT t g)).1
def Ej (t:Ae) (l:List Ab) (on:List Int) (g:Int):Bool:=(stC t l on (upT t g)).2
def Du (t:Ae) (l:List Ab) (on:List Int) (g:Int):Bool:=g==1||Ej t l on g
def Ll (t:Ae) (l:List Ab) (on:List Int) (g:Int):List Int:=Aeo t l g (Cd t l on g) (Du t l on g)
def Ip (t:Ae) (l:List Ab) (on:List Int) (g:Int):List Int:=Og t l g (Cd t l on g) (Du t l on g)
def Bl (t:Ae) (g x:Int):Bool:=(upT t x).contains g
variable {t : Ae} {l:List Ab} {on:List Int}
theorem below_iff {g x:Int} : Bl t g x=true↔g∈upT t x:=by simp [Bl]
theorem Xc (w:WfT t) {g c:Int} (hc:c∈Bi t g):upT t c=c::upT t g∧El t c=true∧g<c:=by
 obtain ⟨x,hx,rfl,rfl⟩:=kids_iff.mp hc
 exact ⟨w.up hx,hasN_iff.mpr ⟨x,hx,rfl⟩,w.par_lt hx⟩
theorem root_up (w:WfT t):upT t 1 = [1]:=by
 obtain ⟨x,r,e,hr⟩:=w.root
 have hx:x∈t.nodes:=by rw [e]; simp
 have:=w.up hx
 rw [hr.id,hr.parent,w.upZero] at this
 exact this
theorem Aah (w:WfT t):Cd t l on 1=on∧Ej t l on 1=false:=by
 unfold Cd Ej
 rw [root_up w]
 exact ⟨rfl,rfl⟩
theorem Aaq {g:Int} (w:WfT t) (h:El t g=true):∃ r,upT t g=g::r:=⟨_,up_cons w h⟩
theorem Vm (w:WfT t) {g c:Int} (hg:El t g=true) (hc:c∈Bi t g) :
  Ej t l on c=(Ip t l on g).contains c∧Cd t l on c=(if (Ip t l on g).contains c then (cfg l c).cpus else Lk (cfg l c).cpus (Ll t l on g)):=by
 obtain ⟨e1,e2,e3⟩:=Xc w hc
 obtain ⟨r,er⟩:=Aaq w hg
 unfold Ej Cd
 rw [e1,er,stC]
 unfold Ip Ll Cd Du Ej
 rw [er]
 by_cases h:(Og t l g (stC t l on (g::r)).1 (g==1||(stC t l on (g::r)).2)).contains c=true
 ·rw [if_pos h,if_pos h,h]
  exact ⟨rfl,rfl⟩
 ·rw [if_neg h,if_neg h]
  simp only [Bool.not_eq_true] at h
  rw [h]
  exact ⟨rfl,rfl⟩
def setsA (t:Ae) (l:List Ab) (on:List Int) (g:Int) (m:IMap (List Int)):IMap (List Int):=⟨fun x=>Bl t g x||m.has x,fun x=>if Bl t g x then Ll t l on x else m.get x⟩
def partA (t:Ae) (l:List Ab) (on:List Int) (g:Int) (m:IMap Bool):IMap Bool:=⟨fun x=>(Bl t g x&&x != g&&Ej t l on x)||m.has x,fun x=>if Bl t g x&&x != g&&Ej t l on x then true else m.get x⟩
def Hp (m:IMap Bool) (ps:List Int):IMap Bool:=⟨fun x=>ps.contains x||m.has x,fun x=>if ps.contains x then true else m.get x⟩
def Pr (l:List Ab) (ps:List Int):IMap (List Int):=⟨fun x=>ps.contains x,fun x=>if ps.contains x then (cfg l x).cpus else []⟩
def Px (l:List Ab) (ps ms:List Int) (left:List Int):IMap (List Int):=⟨fun x=>ms.contains x||ps.contains x,fun x=>if ms.contains x then Lk (cfg l x).cpus left else if ps.contains x then (cfg l x).cpus else []⟩
theorem IMap.ext' {α:Type} {m n:IMap α} (h1:∀ x,m.has x=n.has x) (h2:∀ x,m.get x=n.get x):m=n:=by
 cases m
 cases n
 congr
 ·funext x; exact h1 x
 ·funext x; exact h2 x
theorem Aiw (m:IMap Bool) (ps:List Int) (x:Int):(Hp m ps).set x true=Hp m (ps ++ [x]):=by
 apply IMap.ext'
 ·intro y
  simp only [IMap.set,Hp,Bg,List.contains_eq_mem,List.mem_append,List.mem_singleton]
  by_cases h:y=x
  ·simp [h]
  ·simp [h]
 ·intro y
  simp only [IMap.set,Hp,Bg,List.contains_eq_mem,List.mem_append,List.mem_singleton,decide_eq_true_eq]
  by_cases h:y=x
  ·simp [h]
  ·simp [h]
theorem AiP (ps:List Int) (x:Int):(Pr l ps).set x (cfg l x).cpus=Pr l (ps ++ [x]):=by
 apply IMap.ext'
 ·intro y
  simp only [IMap.set,Pr,Bg,List.contains_eq_mem,List.mem_append,List.mem_singleton]
  by_cases h:y=x
  ·simp [h]
  ·simp [h]
 ·intro y
  simp only [IMap.set,Pr,Bg,List.contains_eq_mem,List.mem_append,List.mem_singleton,decide_eq_true_eq]
  by_cases h:y=x
  ·simp [h]
  ·simp [h]
theorem AiL (ps ms left:List Int) (x:Int):(Px l ps ms left).set x (Lk (cfg l x).cpus left)=Px l ps (ms ++ [x]) left:=by
 apply IMap.ext'
 ·intro y
  simp only [IMap.set,Px,Bg,List.contains_eq_mem,List.mem_append,List.mem_singleton]
  by_cases h:y=x
  ·simp [h]
  ·simp [h]
 ·intro y
  simp only [IMap.set,Px,Bg,List.contains_eq_mem,List.mem_append,List.mem_singleton,decide_eq_true_eq]
  by_cases h:y=x
  ·simp [h]
  ·simp [h]
theorem AjE (ps left:List Int):Pr l ps=Px l ps [] left:=by
 apply IMap.ext'
 ·intro y; simp [Pr,Px]
 ·intro y; simp [Pr,Px]
structure UseS (t:Ae) (l:List Ab) (on:List Int):Prop where
 fits:FitsS t l
 pos:0<on.length
 set:okSet 16 on
theorem CheckP.small {s:At} (h:CheckP s):s.cpus.length≤16∧s.mems.length≤8∧Asc s.cpus∧Asc s.mems:=by
 obtain ⟨_,_,_,_,_,h1,h2,_,_,_⟩:=h
 have a1:=h1.len (by omega)
 have a2:=h2.len (by omega)
 exact ⟨by omega,by omega,h1.1,h2.1⟩
theorem cfg_mem {P:At→Prop} (h:∀ x∈l,P x.settings) (hd:P dfS) (g:Int):P (cfg l g):=by
 unfold cfg
 cases hf:l.find? (fun x=>x.group==g) with
 | none=>exact hd
 | some x=>exact h x (List.mem_of_find?_eq_some hf)
theorem FitsS.cfg (f:FitsS t l) (g:Int):CheckP (cfg l g):=cfg_mem f.chk AfS g
theorem Za (on16:okSet 16 on) {L:List Int} (h:∀ x∈L,x∈on) (ha:Asc L):L.length≤16:=by
 have:=(show okSet 16 L from ⟨ha,fun x hx=>on16.2 x (h x hx)⟩).len (by omega)
 omega
end Go.Dm

/- Plain theory of processor sets, part 4: the plan of the program. -/
namespace Go.Dm
set_option linter.unusedVariables false
set_option linter.unusedSimpArgs false
variable {t : Ae} {l:List Ab} {on:List Int}
theorem cond_iff {al:Bool} {left:List Int} {s:At} : Uu al left s=true↔s.partition=1∧al=true∧0<s.cpus.length∧(∀ y∈s.cpus,y∈left)∧s.cpus.length<left.length:=by
 simp [Uu,and_assoc]
theorem Abv {al:Bool} (hc:∀ c,Asc (cfg l c).cpus):∀ (ks left:List Int),Asc left →
  (∀ c∈(Bn l al ks left).2,al=true∧(cfg l c).partition=1∧0<(cfg l c).cpus.length∧∀ y∈(cfg l c).cpus,y∈left∧y∉(Bn l al ks left).1) ∧
  (∀ y∈left,y∈(Bn l al ks left).1∨∃ c∈(Bn l al ks left).2,y∈(cfg l c).cpus) ∧
  (ks.Nodup→∀ c∈(Bn l al ks left).2,∀ d∈(Bn l al ks left).2,∀ y,y∈(cfg l c).cpus→y∈(cfg l d).cpus→c=d) ∧
  (0<left.length→0<(Bn l al ks left).1.length)
 | [],left,ha=>by simp [Bn]
 | c::r,left,ha=>by
  rw [Bn]
  by_cases h:Uu al left (cfg l c)=true
  ·rw [if_pos h]
   obtain ⟨c1,c2,c3,c4,c5⟩:=cond_iff.mp h
   have hm:∀ y,y∈Lf left (cfg l c).cpus↔y∈left∧y∉(cfg l c).cpus:=by
    intro y
    simp [Lf]
   obtain ⟨h1,h2,h3,h4⟩:=Abv (al:=al) hc r (Lf left (cfg l c).cpus) (Tr _ ha)
   obtain ⟨s1,s2,s3⟩:=Lz (l:=l) (al:=al) r (Lf left (cfg l c).cpus)
   refine ⟨fun d hd => ?_,fun y hy => ?_,fun hn d hd e he y hyd hye => ?_,fun hpos=>h4 ?_⟩
   ·simp only
    rcases List.mem_cons.mp hd with rfl|hd
    ·exact ⟨c2,c1,c3,fun y hy=>⟨c4 y hy,fun hy2=>((hm y).mp (s1 y hy2)).2 hy⟩⟩
    ·obtain ⟨g1,g2,g3,g4⟩:=h1 d hd
     exact ⟨g1,g2,g3,fun y hy=>⟨((hm y).mp (g4 y hy).1).1,(g4 y hy).2⟩⟩
   ·simp only
    by_cases hyc:y∈(cfg l c).cpus
    ·exact .inr ⟨c,by simp,hyc⟩
    ·rcases h2 y ((hm y).mpr ⟨hy,hyc⟩) with g|⟨d,hd,g⟩
     ·exact .inl g
     ·exact .inr ⟨d,by simp [hd],g⟩
   ·simp only at hd he
    rw [List.nodup_cons] at hn
    rcases List.mem_cons.mp hd with rfl|hd <;> rcases List.mem_cons.mp he with rfl|he
    ·rfl
    ·exact absurd hyd ((hm y).mp ((h1 e he).2.2.2 y hye).1).2
    ·exact absurd hye ((hm y).mp ((h1 d hd).2.2.2 y hyd).1).2
    ·exact h3 hn.2 d hd e he y hyd hye
   ·apply Nat.pos_of_ne_zero
    intro h0
    have he:=List.eq_nil_of_length_eq_zero h0
    have:left.length≤(cfg l c).cpus.length:=Qv (Yy ha) fun y hy=>by
     by_cases hyc:y∈(cfg l c).cpus
     ·exact hyc
     ·have:=(hm y).mpr ⟨hy,hyc⟩
      rw [he] at this
      simp at this
    omega
  ·rw [if_neg h]
   obtain ⟨h1,h2,h3,h4⟩:=Abv (al:=al) hc r left ha
   exact ⟨h1,h2,fun hn=>h3 (List.nodup_cons.mp hn).2,h4⟩
theorem UseS.asc (u:UseS t l on) (c:Int):Asc (cfg l c).cpus:=(u.fits.cfg c).small.2.2.1
theorem UseS.w (u:UseS t l on):WfT t:=u.fits.wf
theorem Ahh {A B:List Int} : ∀ y∈Lk A B,y∈B:=by
 intro y hy
 unfold Lk at hy
 split at hy
 ·simp only [Re,List.mem_filter,List.contains_eq_mem,decide_eq_true_eq] at hy
  exact hy.2
 ·exact hy
theorem AgR {A B:List Int} (ha:Asc A) (hb:Asc B):Asc (Lk A B):=by
 unfold Lk
 split
 ·exact Tr _ ha
 ·exact hb
theorem AgY {A B:List Int} (hb:0<B.length):0<(Lk A B).length:=by
 unfold Lk
 split
 ·assumption
 ·exact hb
theorem share_ok (u:UseS t l on):∀ x∈t.nodes,Asc (Cd t l on x.id)∧(∀ y∈Cd t l on x.id,y∈on)∧0<(Cd t l on x.id).length:=by
 refine u.w.induct fun x hx ih => ?_
 rcases u.w.p.par x hx with ⟨h1,_⟩|⟨_,_,⟨y,hy,hyp⟩,_⟩
 ·rw [h1,(Aah u.w).1]
  exact ⟨u.set.1,fun y hy=>hy,u.pos⟩
 ·obtain ⟨i1,i2,i3⟩:=ih y hy hyp
  rw [hyp] at i1 i2 i3
  have hg:El t x.parent=true:=hasN_iff.mpr ⟨y,hy,hyp⟩
  have hk:x.id∈Bi t x.parent:=kids_iff.mpr ⟨x,hx,rfl,rfl⟩
  obtain ⟨e1,e2⟩:=Vm (l:=l) (on:=on) u.w hg hk
  rw [e2]
  obtain ⟨p1,p2,p3,p4⟩:=Abv (al:=Du t l on x.parent) u.asc (Bi t x.parent) _ i1
  obtain ⟨s1,s2,s3⟩:=Lz (l:=l) (al:=Du t l on x.parent) (Bi t x.parent) (Cd t l on x.parent)
  split
  ·rename_i hc
   have hc:x.id∈Ip t l on x.parent:=by simpa using hc
   obtain ⟨_,_,q3,q4⟩:=p1 _ hc
   exact ⟨u.asc _,fun y hy=>i2 y (q4 y hy).1,q3⟩
  ·exact ⟨AgR (u.asc _) (s3 i1),fun y hy=>i2 y (s1 y (Ahh y hy)),AgY (p4 i3)⟩
theorem AdT (u:UseS t l on) {g:Int} (h:El t g=true):Asc (Cd t l on g)∧(∀ y∈Cd t l on g,y∈on)∧0<(Cd t l on g).length∧(Cd t l on g).length≤16:=by
 obtain ⟨x,hx,rfl⟩:=hasN_iff.mp h
 obtain ⟨h1,h2,h3⟩:=share_ok u x hx
 exact ⟨h1,h2,h3,Za u.set h2 h1⟩
theorem Xp (u:UseS t l on) {g:Int} (h:El t g=true):Asc (Ll t l on g)∧(∀ y∈Ll t l on g,y∈Cd t l on g)∧0<(Ll t l on g).length∧(Ll t l on g).length≤16:=by
 obtain ⟨h1,h2,h3,_⟩:=AdT u h
 obtain ⟨p1,p2,p3,p4⟩:=Abv (al:=Du t l on g) u.asc (Bi t g) _ h1
 obtain ⟨s1,s2,s3⟩:=Lz (l:=l) (al:=Du t l on g) (Bi t g) (Cd t l on g)
 exact ⟨s3 h1,s1,p4 h3,Za u.set (fun y hy=>h2 y (s1 y hy)) (s3 h1)⟩
theorem AiC (u:UseS t l on) (hs:∀ x∈l,Cz x.settings) {g:Int} {al:Bool} {p:plan} (ht:p.tree=t) (hl:p.configs=l) (hg:El t g=true) {s:List Int} (ha:Asc s) (h16:s.length≤16)
  (hal:p.partitions.get g=al) {rec:plan→Int→List Int→Option plan} {Q:plan→Prop}
  (fin:Ok (Jo rec p g (Pr l (Og t l g s al),(Bi t g).filter (fun c => !(Og t l g s al).contains c),Hp p.partitions (Og t l g s al),Aeo t l g s al)) Q) :
  Ok (Jz rec p g s) Q:=by
 have hlen:=u.fits.len
 have hn:=u.w.len2
 unfold Jz
 rw [ht,AdV t g (by omega),Option.bind_some]
 have hk:=AaB t g
 refine Ok.guard (by omega) ?_
 refine Ok.range (fun pre s1=>s1=(Pr l (Bn l al pre s).2,pre.filter (fun c => !(Bn l al pre s).2.contains c),Hp p.partitions (Bn l al pre s).2,(Bn l al pre s).1)) ?_ ?_ ?_
 ·have e0:Hp p.partitions []=p.partitions:=by apply IMap.ext' <;> intro y <;> simp [Hp]
  simp only [Bn,List.filter_nil,e0]
  rfl
 ·intro pre x post s1 n he hI hn2
  subst hI
  have hxk:x∈Bi t g:=by rw [he]; simp
  obtain ⟨e1,e2,e3⟩:=Xc u.w hxk
  have hnd:(pre++x::post).Nodup:=by rw [← he]; exact Zw u.w g
  have hxpre:x∉pre:=fun h=>by
   rw [List.nodup_append] at hnd
   exact hnd.2.2 x h x (by simp) rfl
  obtain ⟨s1',s2',s3'⟩:=Lz (l:=l) (al:=al) pre s
  have hgpre:g∉(Bn l al pre s).2:=fun h=>by
   have hgk:g∈Bi t g:=by rw [he]; simp [s2' g h]
   have:=(Xc u.w hgk).2.2
   omega
  have hlen16:(Bn l al pre s).1.length≤16:=by
   have:=Qv (Yy (s3' ha)) s1'
   omega
  unfold Py Fk Jp
  rw [hl,Xf (by omega) hs,Option.bind_some]
  have hget:(Hp p.partitions (Bn l al pre s).2).get g=al:=by
   simp only [Hp,List.contains_eq_mem,hgpre,decide_false,Bool.false_eq_true,if_false]
   exact hal
  have hcs:=(u.fits.cfg x).small
  have hW:Rn (cfg l x).cpus (Bn l al pre s).1=some ((cfg l x).cpus.all (fun y=>(Bn l al pre s).1.contains y)):=AgO (by omega) (by omega)
  have hyes:Uu al (Bn l al pre s).1 (cfg l x)=true→Ok (Option.bind (Tx (Bn l al pre s).1 (cfg l x).cpus) fun r88=>n ((Pr l (Bn l al pre s).2).set x (cfg l x).cpus,pre.filter (fun c => !(Bn l al pre s).2.contains c),(Hp p.partitions (Bn l al pre s).2).set x true,r88)) Q:=by
   intro hc
   rw [Ahp (s3' ha) (by omega) (by omega),Option.bind_some,AiP,Aiw]
   refine hn2 _ ?_
   rw [Vp,if_pos hc]
   simp only
   congr 1
   congr 1
   rw [List.filter_append]
   have h1:pre.filter (fun c => !((Bn l al pre s).2 ++ [x]).contains c)=pre.filter (fun c => !(Bn l al pre s).2.contains c):=by
    apply List.filter_congr
    intro c hc2
    have:c≠x:=fun e=>hxpre (e▸hc2)
    simp [this]
   rw [h1]
   simp
  have hno:¬ Uu al (Bn l al pre s).1 (cfg l x)=true→Ok (if (pre.filter (fun c => !(Bn l al pre s).2.contains c)).length+1≤1073741824 then n (Pr l (Bn l al pre s).2,pre.filter (fun c => !(Bn l al pre s).2.contains c) ++ [x],Hp p.partitions (Bn l al pre s).2,(Bn l al pre s).1) else none) Q:=by
   intro hc
   have hpl:pre.length≤(Bi t g).length:=by rw [he]; simp
   have:=List.length_filter_le (fun c => !(Bn l al pre s).2.contains c) pre
   refine Ok.guard (by omega) (hn2 _ ?_)
   rw [Vp,if_neg hc,List.filter_append]
   have:x∉(Bn l al pre s).2:=fun h=>hxpre (s2' x h)
   simp [this]
  simp only [hget]
  by_cases c1:(cfg l x).partition=1
  ·rw [if_pos (by simpa using c1)]
   cases al with
   | true =>
    rw [if_pos rfl]
    by_cases c3:0<(cfg l x).cpus.length
    ·rw [if_pos (by simpa using c3),hW,Option.bind_some]
     by_cases c4:(cfg l x).cpus.all (fun y=>(Bn l true pre s).1.contains y)=true
     ·rw [if_pos c4]
      by_cases c5:(cfg l x).cpus.length<(Bn l true pre s).1.length
      ·rw [if_pos (by simpa using c5)]
       exact hyes (cond_iff.mpr ⟨c1,rfl,c3,by simpa using c4,c5⟩)
      ·rw [if_neg (by simpa using c5)]
       exact hno fun h=>c5 (cond_iff.mp h).2.2.2.2
     ·rw [if_neg c4,if_neg (by simp)]
      exact hno fun h=>c4 (by simpa using (cond_iff.mp h).2.2.2.1)
    ·rw [if_neg (by simpa using c3),if_neg (by simp)]
     exact hno fun h=>c3 (cond_iff.mp h).2.2.1
   | false =>
    rw [if_neg (by simp),if_neg (by simp)]
    exact hno fun h=>by have:=(cond_iff.mp h).2.1; simp at this
  ·rw [if_neg (by simpa using c1),if_neg (by simp)]
   exact hno fun h=>c1 (cond_iff.mp h).1
 ·intro s1 hI
  subst hI
  exact fin
theorem Ahy (u:UseS t l on) (hs:∀ x∈l,Cz x.settings) {g:Int} {p:plan} (hl:p.configs=l) {ps ms left:List Int} {q:IMap Bool} (h16:left.length≤16) (hms:ms.length≤64)
  {rec:plan→Int→List Int→Option plan} {Q:plan→Prop} (fin:Ok (Ku rec p g (Pr l ps,ms,q,left) (Px l ps ms left)) Q):Ok (Jo rec p g (Pr l ps,ms,q,left)) Q:=by
 have hlen:=u.fits.len
 have hn:=u.w.len2
 unfold Jo
 refine Ok.guard (by simp only; omega) ?_
 refine Ok.range (fun pre s1=>s1=Px l ps pre left) (AjE ps left) ?_ ?_
 ·intro pre x post s1 n he hI hn2
  subst hI
  unfold Ov
  have hcs:=(u.fits.cfg x).small
  rw [hl,Xf (by omega) hs,Option.bind_some,Ain hcs.2.2.1 (by omega) (by simp only; omega),Option.bind_some]
  simp only
  rw [AiL]
  exact hn2 _ rfl
 ·intro s1 hI
  subst hI
  exact fin
theorem Qg (w:WfT t) {g c x:Int} (hg:El t g=true) (hc:c∈Bi t g) (h:Bl t c x=true):Bl t g x=true∧x≠g:=by
 rw [below_iff] at h ⊢
 obtain ⟨n,hn,hnx⟩:=Ni h
 subst hnx
 obtain ⟨e1,e2,e3⟩:=Xc w hc
 obtain ⟨r,er⟩:=Aaq w hg
 have hcn:g∈upT t c:=by
  rw [e1,er]
  simp
 refine ⟨up_trans w hcn n hn h,fun e => ?_⟩
 have:=up_le w n hn c h
 omega
theorem Yd (w:WfT t) {g x:Int} (hg:El t g=true):Bl t g x=true↔x=g∨∃ c∈Bi t g,Bl t c x=true:=by
 constructor
 ·intro h
  obtain ⟨n,hn,hnx⟩:=Ni (below_iff.mp h)
  subst hnx
  rcases up_child w n hn (below_iff.mp h) with h|⟨c,hc,h⟩
  ·exact .inl h
  ·exact .inr ⟨c,hc,below_iff.mpr h⟩
 ·rintro (rfl|⟨c,hc,h⟩)
  ·obtain ⟨r,er⟩:=Aaq w hg
   rw [below_iff,er]
   simp
  ·exact (Qg w hg hc h).1
theorem AbB (w:WfT t) {g c d x:Int} (hc:c∈Bi t g) (hd:d∈Bi t g) (h1:Bl t c x=true) (h2:Bl t d x=true):c=d:=by
 obtain ⟨y,hy,hyp,hyc⟩:=kids_iff.mp hc
 obtain ⟨z,hz,hzp,hzd⟩:=kids_iff.mp hd
 obtain ⟨n,hn,hnx⟩:=Ni (below_iff.mp h1)
 subst hnx
 have:=up_one w hy hz hyp hzp n hn (by rw [hyc]; exact below_iff.mp h1) (by rw [hzd]; exact below_iff.mp h2)
 rw [← hyc,← hzd,this]
theorem Tp (w:WfT t) {g:Int} (hg:El t g=true):Bl t g g=true:=by
 obtain ⟨r,er⟩:=Aaq w hg
 rw [below_iff,er]
 simp
def AcH (t:Ae) (l:List Ab) (on:List Int) (g:Int) (rem:Int→Bool) (m:IMap (List Int)):IMap (List Int) :=
 ⟨fun x=>(x==g||(Bi t g).any (fun c => !rem c&&Bl t c x))||m.has x,fun x=>if x==g||(Bi t g).any (fun c => !rem c&&Bl t c x) then Ll t l on x else m.get x⟩
def Wa (t:Ae) (l:List Ab) (on:List Int) (g:Int) (rem:Int→Bool) (m:IMap Bool):IMap Bool :=
 ⟨fun x=>(Bi t g).any (fun c => !rem c&&Bl t c x&&x != c&&Ej t l on x)||m.has x,fun x=>if (Bi t g).any (fun c => !rem c&&Bl t c x&&x != c&&Ej t l on x) then true else m.get x⟩
theorem AjK (w:WfT t) {g n:Int} {rem:Int→Bool} (hg:El t g=true) (hn:n∈Bi t g) (m:IMap (List Int)) :
  setsA t l on n (AcH t l on g rem m)=AcH t l on g (Bg rem n false) m:=by
 have key:∀ x,(Bl t n x||(x==g||(Bi t g).any (fun c => !rem c&&Bl t c x)))=(x==g||(Bi t g).any (fun c => !(Bg rem n false) c&&Bl t c x)):=by
  intro x
  rw [Bool.eq_iff_iff]
  simp only [Bool.or_eq_true,beq_iff_eq,List.any_eq_true,Bool.and_eq_true,Bool.not_eq_true',Bg]
  constructor
  ·rintro (h|h|⟨c,hc,h1,h2⟩)
   ·exact .inr ⟨n,hn,by simp,h⟩
   ·exact .inl h
   ·refine .inr ⟨c,hc,?_,h2⟩
    split
    ·rfl
    ·exact h1
  ·rintro (h|⟨c,hc,h1,h2⟩)
   ·exact .inr (.inl h)
   ·by_cases e:c=n
    ·subst e; exact .inl h2
    ·rw [if_neg e] at h1
     exact .inr (.inr ⟨c,hc,h1,h2⟩)
 apply IMap.ext'
 ·intro x
  show (Bl t n x||((x==g||(Bi t g).any (fun c => !rem c&&Bl t c x))||m.has x))=((x==g||(Bi t g).any (fun c => !(Bg rem n false) c&&Bl t c x))||m.has x)
  rw [← Bool.or_assoc,key x]
 ·intro x
  show (if Bl t n x=true then Ll t l on x else if (x==g||(Bi t g).any (fun c => !rem c&&Bl t c x))=true then Ll t l on x else m.get x)=(if (x==g||(Bi t g).any (fun c => !(Bg rem n false) c&&Bl t c x))=true then Ll t l on x else m.get x)
  rw [← key x]
  cases Bl t n x <;> simp
theorem Ajz (w:WfT t) {g n:Int} {rem:Int→Bool} (hg:El t g=true) (hn:n∈Bi t g) (m:IMap Bool) :
  partA t l on n (Wa t l on g rem m)=Wa t l on g (Bg rem n false) m:=by
 have key:∀ x,((Bl t n x&&x != n&&Ej t l on x)||(Bi t g).any (fun c => !rem c&&Bl t c x&&x != c&&Ej t l on x))=(Bi t g).any (fun c => !(Bg rem n false) c&&Bl t c x&&x != c&&Ej t l on x):=by
  intro x
  rw [Bool.eq_iff_iff]
  simp only [Bool.or_eq_true,List.any_eq_true,Bool.and_eq_true,Bool.not_eq_true',Bg,bne_iff_ne,ne_eq]
  constructor
  ·rintro (⟨⟨h1,h2⟩,h3⟩|⟨c,hc,⟨⟨h1,h2⟩,h3⟩,h4⟩)
   ·exact ⟨n,hn,⟨⟨by simp,h1⟩,h2⟩,h3⟩
   ·refine ⟨c,hc,⟨⟨?_,h2⟩,h3⟩,h4⟩
    split
    ·rfl
    ·exact h1
  ·rintro ⟨c,hc,⟨⟨h1,h2⟩,h3⟩,h4⟩
   by_cases e:c=n
   ·subst e; exact .inl ⟨⟨h2,h3⟩,h4⟩
   ·rw [if_neg e] at h1
    exact .inr ⟨c,hc,⟨⟨h1,h2⟩,h3⟩,h4⟩
 apply IMap.ext'
 ·intro x
  show ((Bl t n x&&x != n&&Ej t l on x)||((Bi t g).any (fun c => !rem c&&Bl t c x&&x != c&&Ej t l on x)||m.has x))=_
  rw [← Bool.or_assoc,key x]
  rfl
 ·intro x
  show (if (Bl t n x&&x != n&&Ej t l on x)=true then true else if (Bi t g).any (fun c => !rem c&&Bl t c x&&x != c&&Ej t l on x)=true then true else m.get x)=(if (Bi t g).any (fun c => !(Bg rem n false) c&&Bl t c x&&x != c&&Ej t l on x)=true then true else m.get x)
  rw [← key x]
  cases (Bl t n x&&x != n&&Ej t l on x) <;> simp
theorem Aid (w:WfT t) {g c:Int} (hg:El t g=true) (hc:c∈Bi t g):c≠1:=by
 obtain ⟨e1,e2,e3⟩:=Xc w hc
 obtain ⟨x,hx,rfl⟩:=hasN_iff.mp hg
 have:=w.id_pos hx
 omega
theorem divide_t (u:UseS t l on) (hs:∀ x∈l,Cz x.settings):∀ (n:Nat) (g:Int) (p:plan),(t.next-g).toNat<n→El t g=true→p.tree=t→p.configs=l→p.partitions.get g=Du t l on g →
  (∀ x,Bl t g x=true→x≠g→p.partitions.get x=false) →
  Gx n p g (Cd t l on g)=some { tree:=t,configs:=l,sets:=setsA t l on g p.sets,partitions:=partA t l on g p.partitions } := by
 intro n
 have w:=u.w
 induction n with
 | zero=>intro g p h; omega
 | succ n ih =>
  intro g p hlt hg ht hl hal hbl
  have hgn:g<t.next:=by
   obtain ⟨x,hx,rfl⟩:=hasN_iff.mp hg
   exact w.next x hx
  obtain ⟨q1,q2,q3,q4⟩:=AdT u hg
  obtain ⟨o1,o2,o3,o4⟩:=Xp u hg
  have hkl:=AaB t g
  have hnl:=w.len2
  rw [Gx]
  apply Ok.eq
  refine AiC u hs ht hl hg q1 q4 hal ?_
  have hmsl:=List.length_filter_le (fun c => !(Og t l g (Cd t l on g) (Du t l on g)).contains c) (Bi t g)
  have o4':(Aeo t l g (Cd t l on g) (Du t l on g)).length≤16:=o4
  refine Ahy u hs hl o4' (by omega) ?_
  unfold Ku
  have hgiven:Px l (Og t l g (Cd t l on g) (Du t l on g)) ((Bi t g).filter (fun c => !(Og t l g (Cd t l on g) (Du t l on g)).contains c)) (Aeo t l g (Cd t l on g) (Du t l on g)) =
    ⟨fun c=>(Bi t g).contains c,fun c=>if (Bi t g).contains c then Cd t l on c else []⟩:=by
   obtain ⟨s1,s2,s3⟩:=Lz (l:=l) (al:=Du t l on g) (Bi t g) (Cd t l on g)
   have hpk:∀ c,c∈Og t l g (Cd t l on g) (Du t l on g)→c∈Bi t g:=s2
   apply IMap.ext'
   ·intro c
    simp only [Px,List.contains_eq_mem,List.mem_filter]
    rw [Bool.eq_iff_iff]
    simp only [Bool.or_eq_true,decide_eq_true_eq,Bool.not_eq_true',decide_eq_false_iff_not]
    constructor
    ·rintro (h|h)
     ·exact h.1
     ·exact hpk c h
    ·intro h
     by_cases hp:c∈Og t l g (Cd t l on g) (Du t l on g)
     ·exact .inr hp
     ·exact .inl ⟨h,hp⟩
   ·intro c
    by_cases hck:c∈Bi t g
    ·have hsk:=(Vm (l:=l) (on:=on) w hg hck).2
     simp only [Px,List.contains_eq_mem,List.mem_filter,hck,true_and,decide_true,if_true,hsk]
     by_cases hp:c∈Og t l g (Cd t l on g) (Du t l on g)
     ·simp [hp,Ip]
     ·simp [hp,Ip,Ll]
    ·have hnp:c∉Og t l g (Cd t l on g) (Du t l on g):=fun h=>hck (hpk c h)
     simp [Px,hck,hnp]
  rw [hgiven]
  have hset:p.sets.set g (Aeo t l g (Cd t l on g) (Du t l on g))=AcH t l on g (fun c=>(Bi t g).contains c) p.sets:=by
   apply IMap.ext'
   ·intro x
    simp only [IMap.set,Bg,AcH]
    by_cases e:x=g
    ·simp [e]
    ·have:(Bi t g).any (fun c => !(Bi t g).contains c&&Bl t c x)=false:=by
      rw [List.any_eq_false]
      intro c hc
      simp [hc]
     rw [if_neg e,this]
     simp [e]
   ·intro x
    simp only [IMap.set,Bg,AcH]
    have:(Bi t g).any (fun c => !(Bi t g).contains c&&Bl t c x)=false:=by
     rw [List.any_eq_false]
     intro c hc
     simp [hc]
    rw [this]
    by_cases e:x=g
    ·subst e; simp [Ll]
    ·simp [e]
  have hpart:Hp p.partitions (Og t l g (Cd t l on g) (Du t l on g))=Wa t l on g (fun c=>(Bi t g).contains c) (Hp p.partitions (Ip t l on g)):=by
   have hz:∀ x,(Bi t g).any (fun c => !(Bi t g).contains c&&Bl t c x&&x != c&&Ej t l on x)=false:=by
    intro x
    rw [List.any_eq_false]
    intro c hc
    simp [hc]
   apply IMap.ext'
   ·intro x
    simp only [Wa,hz x,Bool.false_or]
    rfl
   ·intro x
    simp only [Wa,hz x]
    rfl
  refine Ok.of_eq (b := { tree:=t,configs:=l,sets:=setsA t l on g p.sets,partitions:=partA t l on g p.partitions }) ?_ rfl
  refine AgZ (fun rem s=>(∀ c,rem c=true→c∈Bi t g)∧s=(t.nodes,t.next,l,AcH t l on g rem p.sets,Wa t l on g rem (Hp p.partitions (Ip t l on g)))) ?_ ?_ Fh (Bi t g) _ _ (Zw w g) (by rw [Fa]; omega) (by simp) ⟨by simp,?_⟩
  ·rintro rem s c N hrc ⟨hrk,rfl⟩ hN
   have hck:=hrk c hrc
   obtain ⟨e1,e2,e3⟩:=Xc w hck
   unfold Ow
   simp only [List.contains_eq_mem,hck,decide_true,if_true]
   have hpget:(Wa t l on g rem (Hp p.partitions (Ip t l on g))).get c=Du t l on c:=by
    have hz:(Bi t g).any (fun d => !rem d&&Bl t d c&&c != d&&Ej t l on c)=false:=by
     rw [List.any_eq_false]
     intro d hd
     simp only [Bool.and_eq_true,bne_iff_ne,ne_eq,not_and,Bool.not_eq_true]
     intro ⟨⟨_,h1⟩,h2⟩
     exact absurd (AbB w hck hd (Tp w e2) h1) h2
    have h1:Du t l on c=(Ip t l on g).contains c:=by
     have:=Aid w hg hck
     rw [← (Vm (l:=l) (on:=on) w hg hck).1]
     simp [Du,this]
    simp only [Wa,hz,Bool.false_eq_true,if_false,Hp,h1]
    rw [hbl c (Qg w hg hck (Tp w e2)).1 (Qg w hg hck (Tp w e2)).2]
    cases (Ip t l on g).contains c <;> rfl
   have hpbl:∀ x,Bl t c x=true→x≠c→(Wa t l on g rem (Hp p.partitions (Ip t l on g))).get x=false:=by
    intro x hx hxc
    have hz:(Bi t g).any (fun d => !rem d&&Bl t d x&&x != d&&Ej t l on x)=false:=by
     rw [List.any_eq_false]
     intro d hd
     simp only [Bool.and_eq_true,bne_iff_ne,ne_eq,not_and,Bool.not_eq_true,Bool.not_eq_true']
     intro ⟨⟨h0,h1⟩,_⟩
     have:=AbB w hck hd hx h1
     subst this
     rw [hrc] at h0
     simp at h0
    have hnp:x∉Ip t l on g:=by
     intro hxp
     have hxk:x∈Bi t g:=(Lz (l:=l) (al:=Du t l on g) (Bi t g) (Cd t l on g)).2.1 x hxp
     exact hxc (AbB w hck hxk hx (Tp w (Xc w hxk).2.1)).symm
    obtain ⟨b1,b2⟩:=Qg w hg hck hx
    simp only [Wa,hz,Bool.false_eq_true,if_false,Hp,List.contains_eq_mem,hnp,decide_false]
    exact hbl x b1 b2
   have:=ih c { tree:=t,configs:=l,sets:=AcH t l on g rem p.sets,partitions:=Wa t l on g rem (Hp p.partitions (Ip t l on g)) } (by omega) e2 rfl rfl hpget hpbl
   rw [this,Option.bind_some]
   simp only
   rw [AjK w hg hck,Ajz w hg hck]
   refine hN _ ⟨fun d hd => ?_,rfl⟩
   simp only [Bg] at hd
   split at hd
   ·simp at hd
   ·exact hrk d hd
  ·rintro s ⟨_,rfl⟩
   unfold Ot
   simp only
   congr 1
   congr 1
   ·apply IMap.ext'
    ·intro x
     show ((x==g||(Bi t g).any (fun c => !false&&Bl t c x))||p.sets.has x)=(Bl t g x||p.sets.has x)
     congr 1
     rw [Bool.eq_iff_iff,Yd w hg]
     simp
    ·intro x
     show (if (x==g||(Bi t g).any (fun c => !false&&Bl t c x))=true then _ else _)=(if Bl t g x=true then _ else _)
     have:(x==g||(Bi t g).any (fun c => !false&&Bl t c x))=Bl t g x:=by
      rw [Bool.eq_iff_iff,Yd w hg]
      simp
     rw [this]
   ·have key:∀ x,((Bi t g).any (fun c => !false&&Bl t c x&&x != c&&Ej t l on x)||(Ip t l on g).contains x)=(Bl t g x&&x != g&&Ej t l on x):=by
     intro x
     rw [Bool.eq_iff_iff]
     simp only [Bool.or_eq_true,List.any_eq_true,Bool.and_eq_true,bne_iff_ne,ne_eq,Bool.not_false,true_and]
     constructor
     ·rintro (⟨c,hc,⟨h1,h2⟩,h3⟩|h)
      ·obtain ⟨b1,b2⟩:=Qg w hg hc h1
       exact ⟨⟨b1,b2⟩,h3⟩
      ·have hxp:x∈Ip t l on g:=by simpa using h
       have hxk:x∈Bi t g:=(Lz (l:=l) (al:=Du t l on g) (Bi t g) (Cd t l on g)).2.1 x hxp
       obtain ⟨b1,b2⟩:=Qg w hg hxk (Tp w (Xc w hxk).2.1)
       exact ⟨⟨b1,b2⟩,by rw [(Vm (l:=l) (on:=on) w hg hxk).1]; exact h⟩
     ·rintro ⟨⟨h1,h2⟩,h3⟩
      rcases (Yd w hg).mp h1 with h|⟨c,hc,h⟩
      ·exact absurd h h2
      ·by_cases e:x=c
       ·subst e
        right
        rw [(Vm (l:=l) (on:=on) w hg hc).1] at h3
        exact h3
       ·exact .inl ⟨c,hc,⟨h,e⟩,h3⟩
    apply IMap.ext'
    ·intro x
     show ((Bi t g).any (fun c => !false&&Bl t c x&&x != c&&Ej t l on x)||((Ip t l on g).contains x||p.partitions.has x))=((Bl t g x&&x != g&&Ej t l on x)||p.partitions.has x)
     rw [← Bool.or_assoc,key x]
    ·intro x
     show (if (Bi t g).any (fun c => !false&&Bl t c x&&x != c&&Ej t l on x)=true then true else if (Ip t l on g).contains x=true then true else p.partitions.get x)=(if (Bl t g x&&x != g&&Ej t l on x)=true then true else p.partitions.get x)
     rw [← key x]
     cases (Bi t g).any (fun c => !false&&Bl t c x&&x != c&&Ej t l on x) <;> simp
  ·rw [ht,hl,hset,hpart]
end Go.Dm

/- Plain theory of processor sets, part 5: what the program answers. -/
namespace Go.Dm
set_option linter.unusedVariables false
set_option linter.unusedSimpArgs false
variable {t : Ae} {l:List Ab} {on:List Int}
theorem AcT (w:WfT t) (x:Int):Bl t 1 x=El t x:=by
 rw [Bool.eq_iff_iff,below_iff]
 constructor
 ·intro h
  obtain ⟨n,hn,rfl⟩:=Ni h
  exact hasN_iff.mpr ⟨n,hn,rfl⟩
 ·intro h
  obtain ⟨n,hn,rfl⟩:=hasN_iff.mp h
  refine w.induct (P:=fun n=>(1:Int)∈upT t n.id) (fun n hn ih => ?_) n hn
  rcases w.p.par n hn with ⟨h1,_⟩|⟨_,_,⟨y,hy,hyp⟩,_⟩
  ·rw [h1,root_up w]
   simp
  ·have:=ih y hy hyp
   rw [hyp] at this
   rw [w.up hn]
   simp [this]
def Lh (t:Ae) (l:List Ab) (on:List Int):List Int:=(t.nodes.map (·.id)).filter (fun x=>x != 1&&Ej t l on x)
theorem Aan (w:WfT t):Asc (Lh t l on):=by
 refine Tr _ ?_
 rw [Asc,List.pairwise_map]
 exact w.sorted
theorem AfO {x:Int} : x∈Lh t l on↔El t x=true∧x≠1∧Ej t l on x=true:=by
 unfold Lh
 rw [List.mem_filter,hasN_iff]
 simp
theorem Aab : (Lh t l on).length≤t.nodes.length:=by
 unfold Lh
 have:=List.length_filter_le (fun x=>x != 1&&Ej t l on x) (t.nodes.map (·.id))
 simpa using this
theorem of_t (u:UseS t l on) (hs:∀ x∈l,Cz x.settings) :
  ∃ p,Tc t l on=some p∧(∀ x,p.sets.get x=if El t x then Ll t l on x else [])∧∀ x,p.partitions.has x=true↔x∈Lh t l on:=by
 have w:=u.w
 have h16:=Za u.set (fun x h=>h) u.set.1
 have hroot:=Aah (l:=l) (on:=on) w
 have hnx:=w.nextLe
 have e:=divide_t u hs Fh 1 { tree:=t,configs:=l,sets:=IMap.empty ([]:List Int),partitions:=(IMap.empty false).set 1 true } (by rw [Fa]; omega) (AhZ w) rfl rfl (by simp [IMap.set,Bg,Du]) (fun x hx hx1=>by simp [IMap.set,Bg,hx1,IMap.empty])
 rw [hroot.1] at e
 unfold Tc Ru
 rw [Qf (by omega),Option.bind_some,e,Option.bind_some]
 refine ⟨_,rfl,fun x => ?_,fun x => ?_⟩
 ·simp only [setsA,IMap.empty,AcT w]
 ·simp only [IMap.del,partA,IMap.set,IMap.empty,Bg,AcT w,AfO]
  by_cases h1:x=1
  ·simp [h1]
  ·simp [h1,and_assoc]
theorem UseS.iff : Acl t l on 16↔UseS t l on:=⟨fun u=>⟨u.fits,u.pos,u.set⟩,fun u=>⟨u.fits,u.pos,u.set⟩⟩
theorem Afo (u:UseS t l on) (hs:∀ x∈l,Cz x.settings):Hz t l on 16=some true:=by
 have h16:=Za u.set (fun x h=>h) u.set.1
 have hl:=u.fits.len
 have hn:=u.w.len2
 obtain ⟨b,h1,h2⟩:=Aao (t:=t) (l:=l) (on:=on) (n:=16) u.w.p.names (by omega) (by omega) hs (by omega)
 rw [h1,h2.mpr (UseS.iff.mpr u)]
theorem Cpus_t (u:UseS t l on) (hs:∀ x∈l,Cz x.settings) (g:Int):Ev t l on g=some (if El t g then Ll t l on g else []):=by
 obtain ⟨p,h1,h2,_⟩:=of_t u hs
 unfold Ev
 rw [Afo u hs,Option.bind_some,if_neg (by simp),h1,Option.bind_some,h2 g]
 have hlen:(if El t g then Ll t l on g else []).length≤16:=by
  split
  ·rename_i h; exact (Xp u h).2.2.2
  ·simp
 rw [Qf (by omega),Option.bind_some]
theorem sort_to {L K:List Int} (hn:L.Nodup) (hm:∀ x,x∈L↔x∈K) (hk:Asc K) (hl:L.length≤1000):Iu L=some K:=by
 obtain ⟨M,h1,h2,h3⟩:=Sort_ok L hl
 have hnd:M.Nodup:=h2.nodup_iff.mpr hn
 have ha:Asc M:=by
  have:=List.pairwise_and_iff.mpr ⟨h3,hnd⟩
  exact this.imp fun ⟨a,b⟩=>by omega
 rw [h1,Acf ha hk fun x=>h2.mem_iff.trans (hm x)]
theorem Adv (u:UseS t l on) (hs:∀ x∈l,Cz x.settings):Fp t l on=some (Lh t l on):=by
 obtain ⟨p,h1,_,h3⟩:=of_t u hs
 have w:=u.w
 have hn:=w.len2
 have hal:=Aab (t:=t) (l:=l) (on:=on)
 unfold Fp
 rw [Afo u hs,Option.bind_some,if_neg (by simp),h1,Option.bind_some]
 refine AgZ (fun rem s=>s.Nodup∧(∀ x,rem x=true→x∈Lh t l on)∧∀ x,x∈s↔x∈Lh t l on∧rem x=false) ?_ ?_ Fh (Lh t l on) _ _ (Yy (Aan w)) (by rw [Fa]; omega) (fun n=>h3 n) ⟨List.nodup_nil,fun x hx=>(h3 x).mp hx,fun x => ?_⟩
 ·rintro rem s n N hr ⟨i1,i2,i3⟩ hN
  unfold Rw
  have hsl:s.length≤(Lh t l on).length:=Qv i1 fun x hx=>((i3 x).mp hx).1
  rw [if_pos (by omega)]
  have hns:n∉s:=fun h=>by
   have:=((i3 n).mp h).2
   rw [hr] at this
   simp at this
  refine hN _ ⟨?_,fun x hx => ?_,fun x => ?_⟩
  ·rw [List.nodup_append]
   exact ⟨i1,by simp,fun a ha b hb=>by simp at hb; subst hb; exact fun e=>hns (e▸ha)⟩
  ·simp only [Bg] at hx
   split at hx
   ·simp at hx
   ·exact i2 x hx
  ·rw [List.mem_append,List.mem_singleton,i3 x]
   simp only [Bg]
   by_cases e:x=n
   ·subst e
    simp [i2 x hr]
   ·simp [e]
 ·rintro s ⟨i1,_,i3⟩
  unfold Rx
  have hsl:s.length≤(Lh t l on).length:=Qv i1 fun x hx=>((i3 x).mp hx).1
  have hm:∀ x,x∈s↔x∈Lh t l on:=fun x=>by rw [i3 x]; simp
  rw [sort_to i1 hm (Aan w) (by omega),Option.bind_some,if_pos]
  have h2:(Lh t l on).length≤s.length:=Qv (Yy (Aan w)) fun x hx=>(hm x).mpr hx
  omega
 ·simp only [List.not_mem_nil,false_iff,not_and,Bool.not_eq_false]
  exact fun h=>(h3 x).mpr h
theorem Afd (u:UseS t l on) (hs:∀ x∈l,Cz x.settings) (g:Int):Ff t l on g=some ((Lh t l on).contains g):=by
 have hn:=u.w.len2
 have hal:=Aab (t:=t) (l:=l) (on:=on)
 unfold Ff
 rw [Adv u hs,Option.bind_some,Zp _ _ (by omega),Option.bind_some]
theorem Set_ok {d:Ak} (hd:Ct d) {n:Int} (n0:0≤n) (n1:n≤1000):Ok (Mb d n) (fun r=>okSet n r.1∧Ct r.2):=by
 unfold Mb
 refine Ok.guard (by omega) ?_
 have e:Int.toNat (n-0)=n.toNat:=by simp
 rw [e]
 refine Ok.for (fun j s=>Ct s.1∧Asc s.2∧∀ x∈s.2,0≤x∧x<(j:Int)) ⟨hd,List.Pairwise.nil,fun x hx=>by simp at hx⟩ ?_ ?_
 ·rintro j ⟨d,L⟩ m hj ⟨hd,ha,hb⟩ hm
  unfold Wq Oh
  simp only at hd ha hb
  have hlen:=AgG ha hb
  refine Ok.bind (Tn hd 3 (by omega)) fun r hd => ?_
  refine Ok.ite (fun _=>Ok.guard (by simp only; omega) (hm _ ⟨hd,?_,?_⟩)) fun _=>hm _ ⟨hd,ha,fun x hx=>⟨(hb x hx).1,by have:=(hb x hx).2; omega⟩⟩
  ·exact AcG ha fun y hy=>by have:=(hb y hy).2; omega
  ·intro x hx
   rcases List.mem_append.mp hx with h|h
   ·exact ⟨(hb x h).1,by have:=(hb x h).2; omega⟩
   ·simp only [List.mem_singleton] at h
    subst h
    omega
 ·rintro ⟨d,L⟩ ⟨hd,ha,hb⟩
  unfold Wo
  exact Ok.ret ⟨⟨ha,fun x hx=>⟨(hb x hx).1,by have:=(hb x hx).2; omega⟩⟩,hd⟩
theorem Ahc {d:Ak} (hd:Ct d) {n:Int} (n0:1≤n) (n1:n≤1000):Ok (Hs d n) (fun r=>okSet n r.1∧0<r.1.length∧Ct r.2):=by
 unfold Hs
 refine Ok.bind (Set_ok hd (by omega) n1) fun r ⟨hs,hd⟩ => ?_
 refine Ok.ite (fun c=>Ok.ret ⟨hs,by have:=of_decide_eq_true c; simp only; omega,hd⟩) fun _=>Ok.guard (by omega) ?_
 have e:Int.toNat (n-0)=n.toNat:=by simp
 rw [e]
 refine Ok.for (fun j s=>s.length=j∧Asc s∧∀ x∈s,0≤x∧x<(j:Int)) ⟨rfl,List.Pairwise.nil,fun x hx=>by simp at hx⟩ ?_ ?_
 ·rintro j L m hj ⟨hl,ha,hb⟩ hm
  unfold Of
  refine Ok.guard (by omega) (hm _ ⟨by simp [hl],?_,?_⟩)
  ·exact AcG ha fun y hy=>by have:=(hb y hy).2; omega
  ·intro x hx
   rcases List.mem_append.mp hx with h|h
   ·exact ⟨(hb x h).1,by have:=(hb x h).2; omega⟩
   ·simp only [List.mem_singleton] at h
    subst h
    omega
 ·rintro L ⟨hl,ha,hb⟩
  unfold Oo
  exact Ok.ret ⟨⟨ha,fun x hx=>⟨(hb x hx).1,by have:=(hb x hx).2; omega⟩⟩,by simp only; omega,hd⟩
def newL (t:Ae):List Ab:=t.nodes.map (fun x => { group:=x.id,settings:=dfS })
theorem AiR (w:WfT t):Yt t=some (newL t):=by
 have hn:=w.len2
 unfold Yt Wb
 rw [Pq w,Option.bind_some,if_neg (by simp),if_pos (by omega)]
 have e:∀ x:Int,Jl [] x=some dfS:=fun x=>Wh (by simp) (by simp) x
 rw [Lx (p:=fun _=>true) (f:=fun x:Ax=>({ group:=x.id,settings:=dfS } : Ab)) (r:=Tm) (fun k x s n hs=>by
  unfold Xo
  rw [e,Option.bind_some,if_pos hs,if_pos rfl]) (fun _=>rfl) (by simp; omega)]
 unfold Tm
 have e2:t.nodes.filter (fun _=>true)=t.nodes:=List.filter_eq_self.mpr (fun _ _=>rfl)
 rw [e2]
 rfl
theorem grp_at (f:FitsS t l) {i:Nat} (hi:i<t.nodes.length):(l.getD i default).group=(t.nodes.getD i default).id:=by
 have hlen:=f.len
 have:=congrArg (fun q=>q[i]?) f.grp
 simp only [List.getElem?_map] at this
 rw [List.getElem?_eq_getElem (by omega),List.getElem?_eq_getElem hi] at this
 simp only [Option.map_some,Option.some.injEq] at this
 rw [Gm (by omega),Gm hi,this]
end Go.Dm

/- Plain theory of processor sets, part 6: the example; who shares what with whom. -/
namespace Go.Dm
set_option linter.unusedVariables false
set_option linter.unusedSimpArgs false
variable {t : Ae} {l:List Ab} {on:List Int}
def exT : Ae := { nodes := [{ id:=1,parent:=0,name:=ByteArray.empty,control:=0,kind:=0,owner:=0 },{ id:=2,parent:=1,name:=bs [97],control:=0,kind:=0,owner:=0 },{ id:=3,parent:=1,name:=bs [98],control:=0,kind:=0,owner:=0 }],next:=4 }
def exS : At := { pidsMax:=4611686018427387904,weight:=100,quota:=4611686018427387904,period:=100000,burst:=0,clampMin:=0,clampMax:=10000,cpus := [2,3],mems := [],partition:=1,memory := { min:=0,low:=0,high:=4611686018427387904,max:=4611686018427387904,swapMax:=4611686018427387904,together:=false },devices := [] }
def exL : List Ab := [{ group:=1,settings:=dfS },{ group:=2,settings:=exS },{ group:=3,settings:=dfS }]
theorem exS_ok : CheckP exS:=by
 have e1:Dt exS.memory=some true:=by kernel_rfl
 have e2:Dj exS.devices=some true:=by kernel_rfl
 refine ⟨.inl rfl,⟨by simp [exS],by simp [exS]⟩,?_,by simp [exS],by simp [exS],⟨by simp [exS,Asc],fun x hx => ?_⟩,⟨List.Pairwise.nil,fun x hx=>by simp [exS] at hx⟩,by simp [exS],e1,e2⟩
 ·unfold BandP
  simp [exS]
 ·simp only [exS,List.mem_cons,List.not_mem_nil,or_false] at hx
  omega
theorem exS_small : Cz exS:=⟨by simp [exS],by simp [exS],by simp [exS]⟩
theorem ex_use (w:WfT exT):UseS exT exL [0,1,2,3]:=by
 refine ⟨⟨w,rfl,fun x hx => ?_⟩,by simp,⟨by simp [Asc],fun x hx => ?_⟩⟩
 ·simp only [exL,List.mem_cons,List.not_mem_nil,or_false] at hx
  rcases hx with rfl|rfl|rfl
  ·exact AfS
  ·exact exS_ok
  ·exact AfS
 ·simp only [List.mem_cons,List.not_mem_nil,or_false] at hx
  omega
theorem Aix : ∀ x∈exL,Cz x.settings:=by
 intro x hx
 simp only [exL,List.mem_cons,List.not_mem_nil,or_false] at hx
 rcases hx with rfl|rfl|rfl
 ·exact AdM
 ·exact exS_small
 ·exact AdM
theorem Air : Ql=some true:=by
 have k1:Qp newT 1 (bs [97])=some ({ nodes := [{ id:=1,parent:=0,name:=ByteArray.empty,control:=0,kind:=0,owner:=0 },{ id:=2,parent:=1,name:=bs [97],control:=0,kind:=0,owner:=0 }],next:=3 },2,0):=by kernel_rfl
 have k2:Qp { nodes := [{ id:=1,parent:=0,name:=ByteArray.empty,control:=0,kind:=0,owner:=0 },{ id:=2,parent:=1,name:=bs [97],control:=0,kind:=0,owner:=0 }],next:=3 } 1 (bs [98])=some (exT,3,0):=by kernel_rfl
 have w1:=Agy AgA (p:=1) (s:=bs [97]) (r:=({ nodes := [{ id:=1,parent:=0,name:=ByteArray.empty,control:=0,kind:=0,owner:=0 },{ id:=2,parent:=1,name:=bs [97],control:=0,kind:=0,owner:=0 }],next:=3 },2,0)) (by
  have:=AcO AgA 1 (bs [97])
  rw [k1] at this
  exact (Option.some.inj this).symm) rfl
 have w:WfT exT:=Agy w1 (p:=1) (s:=bs [98]) (r:=(exT,3,0)) (by
  have:=AcO w1 1 (bs [98])
  simp only at this
  rw [k2] at this
  exact (Option.some.inj this).symm) rfl
 have u:=ex_use w
 have hc:=Cpus_t u Aix
 have he:=Afd u Aix
 have c2:Ev exT exL [0,1,2,3] 2=some [2,3]:=by rw [hc]; kernel_rfl
 have c3:Ev exT exL [0,1,2,3] 3=some [0,1]:=by rw [hc]; kernel_rfl
 have c1:Ev exT exL [0,1,2,3] 1=some [0,1]:=by rw [hc]; kernel_rfl
 have e2:Ff exT exL [0,1,2,3] 2=some true:=by rw [he]; kernel_rfl
 have s1:Hg [2,3] [2,3]=some true:=by kernel_rfl
 have s2:Hg [0,1] [0,1]=some true:=by kernel_rfl
 unfold Ql No
 rw [Afl,Option.bind_some,k1,Option.bind_some]
 simp only
 rw [k2,Option.bind_some]
 simp only
 rw [AiR w,Option.bind_some]
 have hl:(newL exT).length=3:=rfl
 rw [if_pos (by omega),if_pos (by omega),Option.bind_some,if_pos (by omega),if_pos (by omega),Option.bind_some]
 have hset:∀ x,x=exL→(Option.bind (Ev exT x [0,1,2,3] 2) fun r14=>(Option.bind (Hg r14 [2,3]) fun r15=>(if r15 then (Option.bind (Ev exT x [0,1,2,3] 3) fun r17=>(Option.bind (Hg r17 [0,1]) fun r18=>(if r18 then (Option.bind (Ev exT x [0,1,2,3] 1) fun r20=>(Option.bind (Hg r20 [0,1]) fun r21=>(if r21 then (Option.bind (Ff exT x [0,1,2,3] 2) fun r23=>some r23) else some false))) else some false))) else some false)))=some true:=by
  rintro x rfl
  rw [c2,Option.bind_some,s1,Option.bind_some,if_pos rfl,c3,Option.bind_some,s2,Option.bind_some,if_pos rfl,c1,Option.bind_some,s2,Option.bind_some,if_pos rfl,e2,Option.bind_some]
 exact hset _ rfl
theorem Weight_ok {d:Ak} (hd:Ct d):Ok (Nl d) (fun r=>(1≤r.1∧r.1≤10000)∧Ct r.2):=by
 unfold Nl
 refine Ok.bind (Hh hd 1000 (by omega) (by omega)) fun r4 ⟨hd,a0,a1⟩=>Ok.bind (Hh hd 8 (by omega) (by omega)) fun r5 ⟨hd,b0,b1⟩ => ?_
 have hw:w64 (1+r4.1)=1+r4.1:=Bb (by omega) (by omega)
 rw [hw]
 refine Ok.guard ⟨b0,by simp; omega⟩ (Ok.guard (by simp; omega) (Ok.ret ⟨?_,hd⟩))
 have:r5.1=0∨r5.1=1∨r5.1=2∨r5.1=3∨r5.1=4∨r5.1=5∨r5.1=6∨r5.1=7:=by omega
 simp only
 rcases this with e|e|e|e|e|e|e|e <;> rw [e] <;> simp <;> omega
theorem AbH : Nx=some dfS:=rfl
theorem AfT {a b:Int} {L:List Int} (h:okSet a L) (hab:a≤b):okSet b L:=⟨h.1,fun x hx=>⟨(h.2 x hx).1,by have:=(h.2 x hx).2; omega⟩⟩
theorem AiY {d:Ak} (hd:Ct d):Ok (Lg d) (fun r=>CheckP r.1∧Cz r.1∧Ct r.2):=by
 unfold Lg
 rw [AbH,Option.bind_some]
 have h5:∀ (y1:Ak×Int) (r5:Int×Ak) (y2:Ak×Int×Int) (r10 r11 r12:Int×Ak) (y3 y4:Ak×List Int) (r19:Bool×Ak) (y5:Int),
   (y1.2=4611686018427387904∨(0≤y1.2∧y1.2≤1099511627776))→(1≤r5.1∧r5.1≤10000)→(if y2.2.1=4611686018427387904 then y2.2.2=0 else (1≤y2.2.1∧y2.2.1≤1000000)∧0≤y2.2.2∧y2.2.2≤y2.2.1) →
   (0≤r10.1∧r10.1<9)→(0≤r11.1∧r11.1<10001)→(0≤r12.1∧r12.1<10001)→okSet 16 y3.2→okSet 8 y4.2→(0≤y5∧y5≤1)→Ct r19.2 →
   Ok (Ik dfS y1 r5 y2 r10 r11 r12 y3 y4 r19 y5) (fun r=>CheckP r.1∧Cz r.1∧Ct r.2):=by
  intro y1 r5 y2 r10 r11 r12 y3 y4 r19 y5 a1 a2 a3 a4 a5 a6 a7 a8 a9 hd
  unfold Ik
  have hw:w64 (1+r10.1)=1+r10.1:=Bb (by omega) (by omega)
  rw [hw]
  have e1:Dt dfS.memory=some true:=by kernel_rfl
  have e2:Dj dfS.devices=some true:=by kernel_rfl
  have l1:=a7.len (by omega)
  have l2:=a8.len (by omega)
  exact Ok.ret ⟨⟨a1,a2,⟨by simp only; omega,a3⟩,by simp only; omega,by simp only; omega,a7,a8,a9,e1,e2⟩,⟨by simp only; omega,by simp only; omega,by simp [dfS]⟩,hd⟩
 have h4:∀ (y1:Ak×Int) (r5:Int×Ak) (y2:Ak×Int×Int) (r10 r11 r12:Int×Ak) (y3 y4:Ak×List Int),
   (y1.2=4611686018427387904∨(0≤y1.2∧y1.2≤1099511627776))→(1≤r5.1∧r5.1≤10000)→(if y2.2.1=4611686018427387904 then y2.2.2=0 else (1≤y2.2.1∧y2.2.1≤1000000)∧0≤y2.2.2∧y2.2.2≤y2.2.1) →
   (0≤r10.1∧r10.1<9)→(0≤r11.1∧r11.1<10001)→(0≤r12.1∧r12.1<10001)→okSet 16 y3.2→okSet 8 y4.2→Ct y4.1 →
   Ok (Ie dfS y1 r5 y2 r10 r11 r12 y3 y4) (fun r=>CheckP r.1∧Cz r.1∧Ct r.2):=by
  intro y1 r5 y2 r10 r11 r12 y3 y4 a1 a2 a3 a4 a5 a6 a7 a8 hd
  unfold Ie
  exact Ok.bind (Tn hd 3 (by omega)) fun r19 hd=>Ok.ite (fun _=>h5 _ _ _ _ _ _ _ _ _ _ a1 a2 a3 a4 a5 a6 a7 a8 (by omega) hd) fun _=>h5 _ _ _ _ _ _ _ _ _ _ a1 a2 a3 a4 a5 a6 a7 a8 (by simp [dfS]) hd
 have h3:∀ (y1:Ak×Int) (r5:Int×Ak) (y2:Ak×Int×Int) (r10 r11 r12:Int×Ak) (y3:Ak×List Int),
   (y1.2=4611686018427387904∨(0≤y1.2∧y1.2≤1099511627776))→(1≤r5.1∧r5.1≤10000)→(if y2.2.1=4611686018427387904 then y2.2.2=0 else (1≤y2.2.1∧y2.2.1≤1000000)∧0≤y2.2.2∧y2.2.2≤y2.2.1) →
   (0≤r10.1∧r10.1<9)→(0≤r11.1∧r11.1<10001)→(0≤r12.1∧r12.1<10001)→okSet 16 y3.2→Ct y3.1 →
   Ok (Ij dfS y1 r5 y2 r10 r11 r12 y3) (fun r=>CheckP r.1∧Cz r.1∧Ct r.2):=by
  intro y1 r5 y2 r10 r11 r12 y3 a1 a2 a3 a4 a5 a6 a7 hd
  unfold Ij
  refine Ok.bind (Tn hd 2 (by omega)) fun r16 hd=>Ok.ite (fun _ => ?_) fun _=>h4 _ _ _ _ _ _ _ _ a1 a2 a3 a4 a5 a6 a7 ⟨List.Pairwise.nil,fun x hx=>by simp [dfS] at hx⟩ hd
  exact Ok.bind (Set_ok hd (n:=4) (by omega) (by omega)) fun r18 ⟨hs,hd⟩=>h4 _ _ _ _ _ _ _ _ a1 a2 a3 a4 a5 a6 a7 (AfT hs (by omega)) hd
 have h2:∀ (y1:Ak×Int) (r5:Int×Ak) (y2:Ak×Int×Int),
   (y1.2=4611686018427387904∨(0≤y1.2∧y1.2≤1099511627776))→(1≤r5.1∧r5.1≤10000)→(if y2.2.1=4611686018427387904 then y2.2.2=0 else (1≤y2.2.1∧y2.2.1≤1000000)∧0≤y2.2.2∧y2.2.2≤y2.2.1) →
   Ct y2.1→Ok (Im dfS y1 r5 y2) (fun r=>CheckP r.1∧Cz r.1∧Ct r.2):=by
  intro y1 r5 y2 a1 a2 a3 hd
  unfold Im
  refine Ok.bind (Hh hd 9 (by omega) (by omega)) fun r10 ⟨hd,b0,b1⟩=>Ok.bind (Hh hd 10001 (by omega) (by omega)) fun r11 ⟨hd,c0,c1⟩=>Ok.bind (Hh hd 10001 (by omega) (by omega)) fun r12 ⟨hd,d0,d1⟩ => ?_
  refine Ok.bind (Tn hd 2 (by omega)) fun r13 hd=>Ok.ite (fun _ => ?_) fun _=>h3 _ _ _ _ _ _ _ a1 a2 a3 ⟨b0,b1⟩ ⟨c0,c1⟩ ⟨d0,d1⟩ ⟨List.Pairwise.nil,fun x hx=>by simp [dfS] at hx⟩ hd
  exact Ok.bind (Set_ok hd (n:=6) (by omega) (by omega)) fun r15 ⟨hs,hd⟩=>h3 _ _ _ _ _ _ _ a1 a2 a3 ⟨b0,b1⟩ ⟨c0,c1⟩ ⟨d0,d1⟩ (AfT hs (by omega)) hd
 have h1:∀ (y1:Ak×Int),(y1.2=4611686018427387904∨(0≤y1.2∧y1.2≤1099511627776))→Ct y1.1→Ok (Ii dfS y1) (fun r=>CheckP r.1∧Cz r.1∧Ct r.2):=by
  intro y1 a1 hd
  unfold Ii
  refine Ok.bind (Weight_ok hd) fun r5 ⟨hw,hd⟩=>Ok.bind (Tn hd 2 (by omega)) fun r6 hd=>Ok.ite (fun _ => ?_) fun _=>h2 _ _ _ a1 hw (by simp [dfS]) hd
  refine Ok.bind (Hh hd 9 (by omega) (by omega)) fun r8 ⟨hd,b0,b1⟩ => ?_
  have e1:w64 (1+r8.1)=1+r8.1:=Bb (by omega) (by omega)
  have e2:w64 (1+r8.1+1)=2+r8.1:=by rw [Bb (by omega) (by omega)]; omega
  rw [e1,e2]
  refine Ok.bind (Hh hd (2+r8.1) (by omega) (by omega)) fun r9 ⟨hd,c0,c1⟩=>h2 _ _ _ a1 hw ?_ hd
  simp only
  rw [if_neg (by omega)]
  omega
 refine Ok.bind (Tn hd 2 (by omega)) fun r2 hd=>Ok.ite (fun _ => ?_) fun _=>h1 _ (.inl rfl) hd
 exact Ok.bind (Hh hd 6 (by omega) (by omega)) fun r4 ⟨hd,b0,b1⟩=>h1 _ (.inr (by simp only; omega)) hd
theorem Ajg {d:Ak} (hd:Ct d) (w:WfT t):Ok (Mi d t) (fun r=>FitsS t r.1∧(∀ x∈r.1,Cz x.settings)∧Ct r.2):=by
 have hn:=w.len2
 unfold Mi
 refine Ok.guard (by omega) ?_
 refine Ok.range (fun pre s=>Ct s.1∧s.2.map (·.group)=pre.map (·.id)∧∀ x∈s.2,CheckP x.settings∧Cz x.settings) ⟨hd,rfl,by simp⟩ ?_ ?_
 ·rintro pre x post ⟨d,L⟩ m he ⟨hd,hg,hc⟩ hm
  simp only at hd hg hc
  have hlen:L.length=pre.length:=by
   have:=congrArg List.length hg
   simpa using this
  have hpl:pre.length≤t.nodes.length:=by rw [he]; simp
  have hJ:∀ (y:Ak×At),CheckP y.2→Cz y.2→Ct y.1→Ok (Ja x (d,L) m y) (fun r=>FitsS t r.1∧(∀ x∈r.1,Cz x.settings)∧Ct r.2):=by
   intro y h1 h2 h3
   unfold Ja
   refine Ok.guard (by simp only; omega) (hm _ ⟨h3,by simp [hg],fun z hz => ?_⟩)
   rcases List.mem_append.mp hz with h|h
   ·exact hc z h
   ·simp only [List.mem_singleton] at h
    subst h
    exact ⟨h1,h2⟩
  unfold Rt
  rw [AbH,Option.bind_some]
  refine Ok.bind (Tn hd 2 (by omega)) fun r16 hd=>Ok.ite (fun _ => ?_) fun _=>hJ _ AfS AdM hd
  exact Ok.bind (AiY hd) fun r18 ⟨h1,h2,h3⟩=>hJ _ h1 h2 h3
 ·rintro ⟨d,L⟩ ⟨hd,hg,hc⟩
  unfold Ry
  exact Ok.ret ⟨⟨w,hg,fun x hx=>(hc x hx).1⟩,fun x hx=>(hc x hx).2,hd⟩
end Go.Dm

/- Plain theory of processor sets, part 7: who shares what with whom. -/
namespace Go.Dm
set_option linter.unusedVariables false
set_option linter.unusedSimpArgs false
variable {t : Ae} {l:List Ab} {on:List Int}
theorem Zu {A B:List Int} (h:Asc A) (ha:A.length≤1000) (hb:B.length≤9223372036854775807):Jm A B=some (Re A B):=by
 unfold Jm
 rw [if_pos (by omega),Lx (p:=fun x:Int=>B.contains x) (f:=fun x=>x) (r:=Qu) (fun k x s n hs=>by
  unfold Vh Nk
  rw [Add _ _ hb,Option.bind_some,if_pos hs]) (fun _=>rfl) (by simp; omega)]
 unfold Qu
 have hm:(A.filter (fun x=>B.contains x)).map (fun x=>x)=Re A B:=by simp [Re]
 have hl:=List.length_filter_le (fun x=>B.contains x) A
 rw [hm,List.nil_append,Wv (l:=Re A B) (by unfold Re; omega) (Tr _ h),Option.bind_some]
theorem Adc {A B:List Int} (h:Asc A) (ha:A.length≤1000) (hb:B.length≤9223372036854775807):Qj A B=some (Lf A B):=by
 unfold Qj
 rw [if_pos (by omega),Lx (p:=fun x:Int => !B.contains x) (f:=fun x=>x) (r:=Wt) (fun k x s n hs=>by
  unfold AaO Tb
  rw [Add _ _ hb,Option.bind_some,if_pos hs]) (fun _=>rfl) (by simp; omega)]
 unfold Wt
 have hm:(A.filter (fun x => !B.contains x)).map (fun x=>x)=Lf A B:=by simp [Lf]
 have hl:=List.length_filter_le (fun x => !B.contains x) A
 rw [hm,List.nil_append,Wv (l:=Lf A B) (by unfold Lf; omega) (Tr _ h),Option.bind_some]
end Go.Dm

/- The data machine: loops over functions. -/
namespace Go.Dm
def Rc : Go.Obj→Bool
 | .loop _=>true
 | .deferred _=>true
 | _=>false
theorem AgJ {P:Program} {g:Operand} {ps:Array Tmp} {assign body:Code} {Q:Exit→Act→World→Prop} {a:Act} {w:World} {gf:Nat} {lb:Array Value}
  (hg:a.eval g = .func (.func gf) #[] lb) (eg:∀ args w,(callFunc gf args).run P w = .ok (.enter gf args) w)
  (N:Nat) (encs:Nat→Array Value) (hps:∀ k,(encs k).size=ps.size) (Hd:World→Prop)
  (hseq:∀ (l:Nat) (J:Nat→World→Prop) (W:World),(∀ k W1,J k W1→Hd W1) →
   (∀ k W1,k<N→J k W1→YieldAt (fen none) 0 P l (encs k) W1 fun e W'=>e = .returned (.bool true)∧J (k+1) W')→J 0 W →
   CallsIn (fen none) 0 P gf (#[.func (.yield l) #[] #[]]++lb) W fun e W'=>(∃ v,e = .returned v)∧J N W')
  (I:Nat→World→Prop) (hI:∀ k W,I k W→Hd W)
  (hturn:∀ k W b o o',I k W→w.heap.size≤b→b≤w.heap.size+1→W.heap[b]? = some o→Rc o=true→Rc o'=true→I k (W.putObj b o'))
  (h0:∀ L,I 0 ((w.alloc (.deferred (some []))).alloc (.loop L))) (a₁ : Nat→Act)
  (hassign:∀ (l k:Nat) (W:World) (K:Act→World→Prop),k<N→K (a₁ k) W →
   assign.wpIn (fen (some l)) 0 P (Exit.then K (fun _ _ _=>False)) { tmps:=(ps.zip (encs k)).foldl (fun t (p,v)=>t.setIfInBounds p v) a.tmps,defers := [] } W)
  (hbody:∀ (l k:Nat) (W:World),k<N→I k W→body.wpIn (fen (some l)) 0 P (fun e _ W'=>e = .normal∧I (k+1) W' ∧
   ∀ b o,w.heap.size≤b→b≤w.heap.size+1→W.heap[b]? = some o→Rc o=true→W'.heap[b]? = some o) (a₁ k) W)
  (hdone:∀ W,I N W→W.heap[w.heap.size]? = some (.deferred (some []))→Q .normal { a with defers := { target := .collected w.heap.size,args := #[] } :: a.defers } W) :
  (Code.rangeFunc g ps assign body).wpIn (fen none) 0 P Q a w:=by
 refine wpIn_rangeFunc fun fn hfn => ?_
 obtain ⟨rec,hrec⟩:∃ rec:LoopState→Option Code→Loop,rec=fun st pe => { state:=st,pending:=pe,fn,tmps:=a.tmps,params:=ps,assign,body,defers:=w.heap.size } := ⟨_,rfl⟩
 obtain ⟨W1,hW1⟩:∃ W1,(w.alloc (.deferred (some []))).alloc (.loop (rec .ready none))=W1:=⟨_,rfl⟩
 have hL1:W1.heap[w.heap.size+1]? = some (.loop (rec .ready none)):=by
  rw [← hW1]; have:=World.alloc_heap_new (w.alloc (.deferred (some []))) (.loop (rec .ready none)); rwa [World.size_alloc] at this
 have hK1:W1.heap[w.heap.size]? = some (.deferred (some [])):=by
  rw [← hW1]; exact (RowKit.Below.heap_alloc _ _ _ (by simp)).trans (World.alloc_heap_new w _)
 have hI1:I 0 W1:=by rw [← hW1]; exact h0 _
 refine ⟨w.heap.size+1,[{ target := .collected w.heap.size,args := #[] }],W1,{ target := .fn (.func gf) lb,args := #[.func (.yield (w.heap.size+1)) #[] #[]] },W1,gf,
  #[.func (.yield (w.heap.size+1)) #[] #[]]++lb,W1,?_,?_,fun _ _=>trivial,?_,fun h=>by simp [fen,Fence.wide] at h,?_⟩
 ·rw [← hW1,hrec]; exact run_enterLoop_outer _ _ _ _ _
 ·simp only [resolve,hg]
  simp [go_sem]
 ·simp [invoke,go_sem,eg]
 ·refine (hseq (w.heap.size+1)
   (fun k W=>I k W∧W.heap[w.heap.size+1]? = some (.loop (rec .ready none))∧W.heap[w.heap.size]? = some (.deferred (some [])))
   W1 (fun k W h=>hI k W h.1) ?_ ⟨hI1,hL1,hK1⟩).mono ?_
  ·rintro k W hk ⟨hi,hl,hd⟩
   have hlt:w.heap.size+1<W.heap.size:=(Array.getElem?_eq_some_iff.1 hl).1
   have hy:=run_yield (P:=P) (args:=encs k) hl (by rw [hrec]; exact hps k)
   rw [hrec] at hy
   refine ⟨fn,_,assign,body,hy,roundIn_of_wpIn hfn (hassign _ k W _ hk ⟨_,run_beginRound hl (by rw [hrec]),?_⟩)⟩
   have hl2:(W.putObj (w.heap.size+1) (.loop { rec .ready none with state := .busy })).heap[w.heap.size+1]? = some (.loop { rec .ready none with state := .busy }):=World.putObj_heap_same hlt
   have hd2:(W.putObj (w.heap.size+1) (.loop { rec .ready none with state := .busy })).heap[w.heap.size]? = some (.deferred (some [])):=(World.putObj_heap_other (by omega)).trans hd
   refine wpIn_mono (hbody _ k _ hk (hturn k W _ _ _ hi (by omega) (Nat.le_refl _) hl rfl rfl)) ?_
   rintro e a3 W3 ⟨rfl,hi3,hk3⟩
   have hl3:=hk3 _ _ (by omega) (Nat.le_refl _) hl2 rfl
   have hd3:=hk3 _ _ (Nat.le_refl _) (by omega) hd2 rfl
   have hr:=run_endRound (P:=P) none hl3
   refine ⟨_,_,hr,rfl,hturn _ _ _ _ _ hi3 (by omega) (Nat.le_refl _) hl3 rfl rfl,?_,(World.putObj_heap_other (by omega)).trans hd3⟩
   rw [World.putObj_heap_same (Array.getElem?_eq_some_iff.1 hl3).1,hrec]
   rfl
  ·rintro e W2 ⟨⟨v,rfl⟩,hi,hl,hd⟩
   refine ⟨none,W2.putObj (w.heap.size+1) (.loop (rec .exhausted none)),?_,hdone _ (hturn _ _ _ _ (.loop (rec .exhausted none)) hi (by omega) (Nat.le_refl _) hl rfl rfl) ((World.putObj_heap_other (by omega)).trans hd)⟩
   have:=run_endLoop (P:=P) hl (by rw [hrec]; simp)
   rw [hrec] at this
   rw [hrec]
   exact this
section
variable {P : Program} {cx:Cx} {β:Bu} {σ:St} {a:Act} {w:World} {Q:Exit→St→Prop}
theorem Rel.turn {W:World} {b:Nat} {o o':Go.Obj} (h:Rel cx β σ a W) (hb:W.heap[b]? = some o) (ho:Rc o=true) (h0:cx.w0.heap.size≤b) (hd:∀ d∈a.defers,∀ D,d.target = .collected D→D≠b):Rel cx β σ a (W.putObj b o'):=by
 have hother:∀ j,j≠b→(W.putObj b o').heap[j]? = W.heap[j]? := fun j hj=>World.putObj_heap_other hj
 have hsz:(W.putObj b o').heap.size=W.heap.size:=by simp [World.putObj]
 have hS:∀ j,As cx.Av β σ.objs W j→As cx.Av β σ.objs (W.putObj b o') j:=fun j hj=>⟨by rw [hsz]; exact hj.1,hj.2.1,hj.2.2⟩
 have hsafe:As cx.Av β σ.objs W b:=h.mark_safe h0 hb (fun _ _ _ e=>by rw [e] at ho; simp [Rc] at ho) (fun _ _ e=>by rw [e] at ho; simp [Rc] at ho) (fun _ _ _ _ e=>by rw [e] at ho; simp [Rc] at ho)
 have hsame:Same (As cx.Av β σ.objs W) W (W.putObj b o'):=by
  refine ⟨fun j q v _ hc => ?_,fun j es c _ hm => ?_⟩
  ·by_cases hj:j=b
   ·subst hj
    simp only [World.cell?,at_,hb] at hc
    cases o <;> simp [Rc] at ho <;> simp at hc
   ·rw [World.cell?_of_block (hother j hj)]
    exact hc
  ·by_cases hj:j=b
   ·subst hj
    rw [hb] at hm
    injection hm with hm
    subst hm
    simp [Rc] at ho
   ·rw [hother j hj]
    exact hm
 have hlive:∀ k q j,σ.objs k=some q→q.body.live→(β k).block=some j→(W.putObj b o').heap[j]? = W.heap[j]? := by
  intro k q j hq hl hj
  exact hother j fun e=>hsafe.2.2 k q hq hl (e▸hj)
 refine ⟨⟨h.nd.nodup,fun d hd' => ?_⟩,h.sz,fun t=>(h.sl t).move hS hsame,fun k q hq => ?_,fun k q j hq hl hj => ?_,h.inj,?_,h.avo,h.avlt,h.mle,h.oloc⟩
 ·obtain ⟨D,e,g0,g1⟩:=h.nd.mark d hd'
  exact ⟨D,e,g0,(hother D (hd d hd' D (by rw [e]))).trans g1⟩
 ·by_cases hl:q.body.live
  ·exact (h.ob k q hq).move hS hsame hl fun j hj=>hlive k q j hq hl hj
  ·cases hbd:q.body with
   | dead=>trivial
   | box cs=>simp [hbd,Body.live] at hl
   | row W n f=>simp [hbd,Body.live] at hl
   | mp z has f=>simp [hbd,Body.live] at hl
   | mq q=>simp [hbd,Body.live] at hl
 ·have:=h.blk k q j hq hl hj
  exact ⟨by rw [hsz]; exact this.1,this.2⟩
 ·have hk:=h.kept
  refine ⟨hk.os,hk.tape,hk.output,by rw [hsz]; exact hk.size,fun j hj hno => ?_⟩
  rw [hother j (by omega)]
  exact hk.block j hj hno
def SlAt (W:World) (v:Value) (L:List Int):Prop :=
 (L = []∧v = .slice none 0 0)∨∃ b o cap,v = .slice (some (at_ b o)) L.length cap∧L.length≤cap∧∀ i,i<L.length→W.cell? (at_ b (o+i))=some (.int .i64 (L.getD i 0))
def HdAt (b:Nat) (L:List Int) (W:World):Prop:=∃ v,W.cell? (at_ b 0)=some v∧SlAt W v L
def Afw (P:Program) (gf:Nat):Prop :=
 (∀ args w,(callFunc gf args).run P w = .ok (.enter gf args) w) ∧
 ∀ (b:Nat) (L:List Int),L.length<2 ^ 62→∀ (l:Nat) (J:Nat→World→Prop) (W:World),(∀ k W1,J k W1→HdAt b L W1) →
  (∀ k W1,k<L.length→J k W1→YieldAt (fen none) 0 P l #[.int .i64 ((L.length-1-k:Nat):Int),.int .i64 (L.getD (L.length-1-k) 0)] W1 fun e W'=>e = .returned (.bool true)∧J (k+1) W')→J 0 W →
  CallsIn (fen none) 0 P gf (#[.func (.yield l) #[] #[]] ++ #[.pointer (some (at_ b 0))]) W fun e W'=>(∃ v,e = .returned v)∧J L.length W'
def Tj {S:Type} (step:Int→S→Option S):List Int→S→Option S
 | [],s=>some s
 | x::r,s=>match step x s with
  | some s'=>Tj step r s'
  | none=>none
theorem Aha {S:Type} {step:Int→S→Option S} : ∀ {l:List Int} {s res:S},Tj step l s=some res→∃ st:Nat→S,st 0=s∧st l.length=res∧∀ k,k<l.length→step (l.getD k 0) (st k)=some (st (k+1))
 | [],s,res,h=>by
  simp [Tj] at h
  exact ⟨fun _=>s,rfl,h,fun k hk=>by simp at hk⟩
 | x::r,s,res,h=>by
  simp only [Tj] at h
  split at h
  case h_2=>simp at h
  rename_i s' hs
  obtain ⟨st,h0,h1,h2⟩:=Aha h
  refine ⟨fun k=>match k with|0=>s|k+1=>st k,rfl,h1,fun k hk => ?_⟩
  cases k with
  | zero=>simpa [h0] using hs
  | succ k=>simpa using h2 k (by simpa using hk)
def argsB (slots:Nat→MV) (nt:Nat) (ls:List Nat) (d:Nat) (x:Int):List MV:=(upN nt 0).map fun t=>bif Nat.beq t d then .p (vi x) else bif elem t ls then slots t else .any
theorem HdAt.of_rel {k:Nat} {b:Nat} {L:List Int} {fl:Fl} {f:Nat→List PV} (h:Rel cx β σ a w) (hb:β k = .box b) (ho:σ.objs k=some ⟨0,.box [.p (.sl fl 1 L.length f)]⟩) (hf:∀ i,i<L.length→f i = [vi (L.getD i 0)]):HdAt b L w:=by
 obtain ⟨b',cur,e,g0,g1,g2,g3⟩:=h.ob k _ ho
 rw [hb] at g0
 injection g0 with g0
 subst g0
 obtain ⟨u,q1,q2,q3⟩:=g3 0 _ rfl
 refine ⟨u,by simp [World.cell?,at_,g1,q1],?_⟩
 have hr:=q3.inv_p
 generalize hn:L.length=n at hr
 cases hr with
 | slnil fl' W' f' h'=>exact .inl ⟨List.length_eq_zero_iff.1 hn,rfl⟩
 | sl fl' W' n' cap bb o f' c hfl hcap hs hlen hc h1 hr =>
  refine .inr ⟨bb,o,cap,by rw [hn],by omega,fun i hi => ?_⟩
  have:=hc i 0 (by omega) (by omega)
  rw [show o+(i*1+0)=o+i by omega] at this
  rw [this]
  have h3:=hr i 0 (vi (L.getD i 0)) (by omega) (by rw [hf i hi]; rfl)
  have h4:c i 0 = .int .i64 (L.getD i 0):=by
   generalize c i 0=cc at h3
   cases h3
   rfl
  rw [h4]
theorem Rel.unmark (h:Rel cx β σ a w) (W:World) (D:Nat) (h0:cx.w0.heap.size≤D) (hD:w.heap[D]? = some (.deferred (some []))) (hn:∀ d∈a.defers,∀ E,d.target = .collected E→E≠D) :
  Rel cx β σ { a with defers := { target := .collected D,args := #[] } :: a.defers } w:=by
 refine ⟨⟨?_,fun d hd => ?_⟩,h.sz,h.sl,h.ob,h.blk,h.inj,h.kept,h.avo,h.avlt,h.mle,h.oloc⟩
 ·rw [List.nodup_cons]
  exact ⟨fun hm=>hn _ hm D rfl rfl,h.nd.nodup⟩
 ·rcases List.mem_cons.1 hd with e|hd
  ·exact ⟨D,e,h0,hD⟩
  ·exact h.nd.mark d hd
theorem DWP.rangeB {S:Type} {nt tg p1 p2 d aid:Nat} {ty:TypeId} {pos:String} {body:Code} {gf kb:Nat} {L:List Int} {fl:Fl} {f:Nat→List PV} (hrd:cx.rd=none) (hnt:cx.nt=nt) (hit:Afw P gf) (hlen:L.length<2 ^ 62)
  (slots:Nat→MV) (objs:S→Bh) {step:Int→S→Option S} {s0 res:S} (hm:Tj step L.reverse s0=some res) (hσ:σ=⟨slots,objs s0⟩)
  (hg:slots tg = .fn gf [.ref kb 0 0]) (hkb:∀ s,objs s kb=some ⟨0,.box [.p (.sl fl 1 L.length f)]⟩) (hf:∀ i,i<L.length→f i = [vi (L.getD i 0)])
  (ks ls:List Nat) (hls:(!elem p1 ls && !elem p2 ls && !elem d ls&&Nat.blt p1 nt&&Nat.blt p2 nt&&Nat.blt d nt && !Nat.beq p1 p2)=true)
  (hround:∀ x s s',x∈L→step x s=some s'→∃ args outs outs' y wo obl,Vo (objs s) 0 ks (argsB slots nt ls d x) true (.p (.tup [])) outs' []=some (args,outs,y,wo,obl)∧All obl ∧
   BSpec P nt body args outs outs'∧All (Aez outs outs')∧Dg (objs s) wo=objs s')
  (hQ:Q .normal ⟨slots,objs res⟩) :
  DWP P cx (.rangeFunc (.tmp tg) #[p1,p2] (.region aid #[⟨some d,.assign (.tmp p2),ty,pos,#[],none⟩] false) body) σ Q:=by
 simp only [Bool.and_eq_true,Bool.not_eq_true'] at hls
 obtain ⟨⟨⟨⟨⟨⟨e1,e2⟩,e3⟩,e4⟩,e5⟩,e6⟩,e7⟩:=hls
 have l1:p1<nt:=Nat.le_of_ble_eq_true e4
 have l2:p2<nt:=Nat.le_of_ble_eq_true e5
 have l3:d<nt:=Nat.le_of_ble_eq_true e6
 have n12:p1≠p2:=fun e=>by rw [e,Nat.beq_refl] at e7; simp at e7
 have nel:∀ {t p:Nat},elem p ls=false→elem t ls=true→t≠p:=fun h1 h2 e=>by rw [e,h1] at h2; simp at h2
 intro β a w hrel
 subst hσ
 rw [hrd]
 have hsl:=hrel.sl tg
 simp only [hg] at hsl
 obtain ⟨vs,hv,hl,hc⟩:∃ vs:Array Value,a.tmps.getD tg undef = .func (.func gf) #[] vs∧vs.size=1∧RelV β (objs s0) (As cx.Av β (objs s0) w) w (vs.getD 0 undef) (.ref kb 0 0):=by
  generalize a.tmps.getD tg undef=v at hsl
  cases hsl with
  | fn _ _ vs hl hr=>exact ⟨vs,rfl,by simpa using hl,hr 0 _ rfl⟩
 obtain ⟨b,hbv,hbk⟩:=hc.inv_ref
 have hvs:vs = #[.pointer (some (at_ b 0))]:=by
  apply Array.ext
  ·simp [hl]
  ·intro i h1 h2
   have:i=0:=by omega
   subst this
   rw [Array.getD_eq_getD_getElem?,Array.getElem?_eq_getElem h1] at hbv
   simpa using hbv
 subst hvs
 have hfix:∀ (β':Bu) (s:S) (W:World),Rel cx β' ⟨slots,objs s⟩ a W→β' kb = .box b:=by
  intro β' s W hr
  have h1:=hr.sl tg
  simp only [hg,hv] at h1
  cases h1 with
  | fn _ _ _ _ hr1 =>
   obtain ⟨b',q1,q2⟩:=(hr1 0 _ rfl).inv_ref
   have q3:=q2.get (hkb s)
   simp at q1
   have:b=b':=by
    have:=q1
    simp [at_] at this
    exact this
   rw [q3,this]
 obtain ⟨st,st0,st1,st2⟩:=Aha hm
 rw [List.length_reverse] at st1 st2
 have hdef:∀ d∈a.defers,∀ D,d.target = .collected D→D<w.heap.size:=by
  intro d hd D hD
  obtain ⟨E,e,_,g1⟩:=hrel.nd.mark d hd
  rw [e] at hD
  injection hD with hD
  subst hD
  exact (Array.getElem?_eq_some_iff.1 g1).1
 have hw0:=hrel.kept.size
 have hassignR:∀ (v1 v2:Value) (K:Act→World→Prop) (l:Nat) (W:World),K { tmps:=((a.tmps.setIfInBounds p1 v1).setIfInBounds p2 v2).setIfInBounds d v2,defers := [] } W →
   (Code.region aid #[⟨some d,.assign (.tmp p2),ty,pos,#[],none⟩] false).wpIn (fen (some l)) 0 P (Exit.then K (fun _ _ _=>False)) { tmps:=(a.tmps.setIfInBounds p1 v1).setIfInBounds p2 v2,defers := [] } W:=by
  intro v1 v2 K l W hK
  refine wpIn_region ?_
  show wpOpsIn (fen (some l)) 0 P _ _ [0] _ W
  rw [wpOpsIn_cons]
  unfold wpOpIn
  simp only [List.size_toArray,List.length_cons,List.length_nil,List.getElem?_toArray,List.getElem?_cons_zero,Region.wanted,if_true]
  refine Rl rfl ?_
  unfold Oper.wp
  simp only [execOp,Sem.run_bind,Sem.run_pure,Result.andThen_ok,Oper.upon]
  show Exit.then K (fun _ _ _=>False) .normal _ W
  have e:Act.eval { tmps:=(a.tmps.setIfInBounds p1 v1).setIfInBounds p2 v2,defers := [] } (.tmp p2)=v2:=by
   show ((a.tmps.setIfInBounds p1 v1).setIfInBounds p2 v2).getD p2 undef=v2
   have:p2<a.tmps.size:=by rw [hrel.sz,hnt]; exact l2
   simp [Array.getD_eq_getD_getElem?,this]
  simp only [Exit.then,Act.put,e]
  exact hK
 refine AgJ (gf:=gf) (lb := #[.pointer (some (at_ b 0))]) hv hit.1 L.length (fun k => #[.int .i64 ((L.length-1-k:Nat):Int),.int .i64 (L.getD (L.length-1-k) 0)]) (fun _=>rfl) (HdAt b L)
  (hit.2 b L hlen) (fun k W=>∃ β,Rel cx β ⟨slots,objs (st k)⟩ a W) (fun k W ⟨β',hr⟩=>HdAt.of_rel hr (hfix β' _ W hr) (hkb _) hf) ?_ ?_
  (fun k => { tmps:=((a.tmps.setIfInBounds p1 (.int .i64 ((L.length-1-k:Nat):Int))).setIfInBounds p2 (.int .i64 (L.getD (L.length-1-k) 0))).setIfInBounds d (.int .i64 (L.getD (L.length-1-k) 0)),defers := [] }) ?_ ?_ ?_
 ·rintro k W j o o' ⟨β',hr⟩ h1 h2 h3 h4 h5
  exact ⟨β',hr.turn h3 h4 (by omega) fun d hd D hD=>by have:=hdef d hd D hD; omega⟩
 ·intro Lp
  obtain ⟨r1,_⟩:=hrel.free (w.alloc (.deferred (some []))) (.deferred (some [])) ⟨rfl,rfl,rfl,rfl⟩
  obtain ⟨r2,_⟩:=r1.free ((w.alloc (.deferred (some []))).alloc (.loop Lp)) (.loop Lp) ⟨rfl,rfl,rfl,rfl⟩
  exact ⟨β,by rw [st0]; exact r2⟩
 ·intro l k W K hk hK
  have:=hassignR (.int .i64 ((L.length-1-k:Nat):Int)) (.int .i64 (L.getD (L.length-1-k) 0)) K l W hK
  have e:∀ v1 v2:Value,(#[p1,p2].zip #[v1,v2]).foldl (fun t (x:Nat×Value)=>match x with|(p,v)=>t.setIfInBounds p v) a.tmps=(a.tmps.setIfInBounds p1 v1).setIfInBounds p2 v2:=fun v1 v2=>by simp
  rw [e]
  exact this
 ·rintro l k W hk ⟨β',hr⟩
  have hstep:=st2 k hk
  have hix:L.reverse.getD k 0=L.getD (L.length-1-k) 0:=by
   rw [List.getD_eq_getElem?_getD,List.getD_eq_getElem?_getD,List.getElem?_reverse hk]
  rw [hix] at hstep
  have hmem:L.getD (L.length-1-k) 0∈L:=by
   have hlt:L.length-1-k<L.length:=by omega
   rw [List.getD_eq_getElem?_getD,List.getElem?_eq_getElem hlt]
   exact List.getElem_mem _
  generalize hxx:L.getD (L.length-1-k) 0=x at hstep hmem
  obtain ⟨args,outs,outs',y,wo,obl,c1,c2,c3,c4,c5⟩:=hround x _ _ hmem hstep
  obtain ⟨tm,htm⟩:∃ tm,((a.tmps.setIfInBounds p1 (.int .i64 ((L.length-1-k:Nat):Int))).setIfInBounds p2 (.int .i64 x)).setIfInBounds d (.int .i64 x)=tm:=⟨_,rfl⟩
  rw [htm]
  have htsz:tm.size=nt:=by rw [← htm]; simp [hr.sz,hnt]
  have hlenA:(argsB slots nt ls d x).length=nt:=by simp [argsB,Xd]
  obtain ⟨Av',β0,hpre,hpost⟩:=Aiv (res := .p (.tup [])) (news := []) hr (fun _ _ h=>h) (fun j hj=>by simp at hj) (fun _ _=>rfl) c1 c2 (AgS _ _ c4) tm (by rw [htsz,hlenA]) (by
   intro t z hz
   have ht:t<nt:=by rw [← hlenA]; exact (List.getElem?_eq_some_iff.1 hz).1
   simp only [argsB] at hz
   rw [List.getElem?_map,upN_get _ _ _ ht] at hz
   simp only [Nat.zero_add,Option.map_some,Option.some.injEq] at hz
   have hta:t<a.tmps.size:=by rw [hr.sz,hnt]; exact ht
   cases hb1:Nat.beq t d with
   | true =>
    rw [hb1,cond_true] at hz
    subst hz
    have:=Nat.eq_of_beq_eq_true hb1
    subst this
    have e:tm.getD t undef = .int .i64 x:=by rw [← htm]; simp [Array.getD_eq_getD_getElem?,hta]
    rw [e]
    exact .mk_v rfl
   | false =>
    rw [hb1,cond_false] at hz
    cases hb2:elem t ls with
    | false=>rw [hb2,cond_false] at hz; subst hz; exact .any _
    | true =>
     rw [hb2,cond_true] at hz
     subst hz
     have e:tm.getD t undef=a.tmps.getD t undef:=by
      rw [← htm]
      simp only [Array.getD_eq_getD_getElem?]
      rw [Array.getElem?_setIfInBounds_ne (Ne.symm (nel e3 hb2)),Array.getElem?_setIfInBounds_ne (Ne.symm (nel e2 hb2)),Array.getElem?_setIfInBounds_ne (Ne.symm (nel e1 hb2))]
     rw [e]
     exact hr.sl t)
  refine wpIn_mono (c3 l W Av' β0 tm htsz hpre) ?_
  rintro e _ W' ⟨rfl,v,β1,hp⟩
  obtain ⟨β2,q1,_,q3⟩:=hpost W' v β1 hp
  rw [c5] at q1
  refine ⟨rfl,⟨β2,q1⟩,fun j o h1 h2 h3 h4 => ?_⟩
  rw [q3 j (hr.mark_safe (by omega) h3 (fun _ _ _ e=>by rw [e] at h4; simp [Rc] at h4) (fun _ _ e=>by rw [e] at h4; simp [Rc] at h4) (fun _ _ _ _ e=>by rw [e] at h4; simp [Rc] at h4))]
  exact h3
 ·rintro W ⟨β',hr⟩ hD
  rw [st1] at hr
  exact ⟨β',_,hQ,hr.unmark W _ hw0 hD fun d hd E hE=>by have:=hdef d hd E hE; omega⟩
def setA (k:Nat) (o:Obj):List (Nat×Obj)→List (Nat×Obj)
 | [] => []
 | (j,q)::r=>bif Nat.beq j k then (j,o)::r else (j,q)::setA k o r
def setAs : List (Nat×Obj)→List (Nat×Obj)→List (Nat×Obj)
 | ob,[]=>ob
 | ob,(k,o)::r=>setAs (setA k o ob) r
theorem Ahe (k:Nat) (o:Obj):∀ ob:List (Nat×Obj),Ch (setA k o ob)=Ch ob
 | []=>rfl
 | (j,q)::r=>by
  simp only [setA]
  cases Nat.beq j k with
  | true=>rfl
  | false=>simp [Ch,Ahe k o r]
theorem AfY {k:Nat} {o:Obj} : ∀ {ob:List (Nat×Obj)},elem k (Ch ob)=true→assoc (setA k o ob)=Bp (assoc ob) k o
 | [],h=>by simp [Ch,elem] at h
 | (j,q)::r,h=>by
  funext i
  simp only [setA]
  cases hb:Nat.beq j k with
  | true =>
   have:=Nat.eq_of_beq_eq_true hb
   subst this
   simp only [cond_true,assoc,Bp]
   cases Nat.beq i j <;> rfl
  | false =>
   simp only [cond_false,assoc,Bp]
   have h':elem k (Ch r)=true:=by
    simp only [Ch,elem,Bool.or_eq_true] at h
    rcases h with h|h
    ·have:=Nat.eq_of_beq_eq_true h
     subst this
     rw [Nat.beq_refl] at hb
     simp at hb
    ·exact h
   have ih:=congrFun (AfY (o:=o) h') i
   simp only [Bp] at ih
   rw [ih]
   cases h1:Nat.beq i j with
   | true =>
    have:=Nat.eq_of_beq_eq_true h1
    subst this
    rw [hb]
    rfl
   | false=>rfl
theorem Afb : ∀ {wo:List (Nat×Obj)} {ob:List (Nat×Obj)},(Ch wo).all (fun k=>elem k (Ch ob))=true→Dg (assoc ob) wo=assoc (setAs ob wo)
 | [],ob,_=>rfl
 | (k,o)::r,ob,h=>by
  simp only [Ch,List.all_cons,Bool.and_eq_true] at h
  simp only [Dg,setAs]
  rw [← AfY h.1]
  exact Afb (by rw [Ahe]; exact h.2)
def roundE (sl:List (Nat×MV)) (ob:List (Nat×Obj)) (nt:Nat) (ls:List Nat) (d:Nat) (x:Int) (ks:List Nat) (outs':List Body):Option (List MV×List Body×List Prop×List (Nat×Obj)) :=
 match Vo (assoc ob) 0 ks (argsB (fun t=>(assoc sl t).getD .any) nt ls d x) true (.p (.tup [])) outs' [] with
 | some (args,outs,_,wo,obl)=>bif (Ch wo).all (fun k=>elem k (Ch ob)) then some (args,outs,obl++Aez outs outs',setAs ob wo) else none
 | none=>none
theorem DW.rangeB {S:Type} {nt tg p1 p2 d aid:Nat} {ty:TypeId} {pos:String} {body:Code} {gf kb:Nat} {L:List Int} {r:List Code} {Q:Exit→St→Prop} (hrd:cx.rd=none) (hnt:cx.nt=nt) (hit:Afw P gf) (hlen:L.length<2 ^ 62)
  (sl:List (Nat×MV)) (obs:S→List (Nat×Obj)) {step:Int→S→Option S} {s0 res:S} (hm:Tj step L.reverse s0=some res) (ks ls:List Nat)
  (hkb:∀ s,assoc (obs s) kb=some ⟨0,.box [.p (Ly 1 (fun x => [vi x]) 0 L)]⟩)
  (hround:∀ x s s',x∈L→step x s=some s'→∃ args outs outs' obl,roundE sl (obs s) nt ls d x ks outs'=some (args,outs,obl,obs s')∧All obl∧BSpec P nt body args outs outs')
  (hQ:DW P cx r (Af sl (obs res)) Q)
  (hg:assoc sl tg=some (.fn gf [.ref kb 0 0]):=by kernel_rfl) (hls:(!elem p1 ls && !elem p2 ls && !elem d ls&&Nat.blt p1 nt&&Nat.blt p2 nt&&Nat.blt d nt && !Nat.beq p1 p2)=true:=by kernel_rfl) (hσ:σ=Af sl (obs s0):=by rfl) :
  DW P cx (.rangeFunc (.tmp tg) #[p1,p2] (.region aid #[⟨some d,.assign (.tmp p2),ty,pos,#[],none⟩] false) body::r) σ Q:=by
 refine DWP.rangeB (Q:=KQ P cx r Q) (kb:=kb) (fl := .unk) (f:=elems (fun x => [vi x]) 0 L) hrd hnt hit hlen (fun t=>(assoc sl t).getD .any) (fun s=>assoc (obs s)) hm hσ (by rw [hg]; rfl) hkb (fun _ _=>rfl) ks ls hls ?_ hQ
 intro x s s' hx hs
 obtain ⟨args,outs,outs',obl,h1,h2,h3⟩:=hround x s s' hx hs
 unfold roundE at h1
 split at h1
 case h_2=>simp at h1
 rename_i args0 outs0 y wo obl0 hce
 cases hb:(Ch wo).all (fun k=>elem k (Ch (obs s))) with
 | false=>rw [hb] at h1; simp at h1
 | true =>
  rw [hb,cond_true] at h1
  simp only [Option.some.injEq,Prod.mk.injEq] at h1
  obtain ⟨rfl,rfl,rfl,h4⟩:=h1
  rw [All_append] at h2
  exact ⟨_,_,outs',y,wo,obl0,hce,h2.1,h3,h2.2,by rw [Afb hb,h4]⟩
def subC : List Nat→Code→Option Code
 | [],c=>some c
 | 0::r,.seq x _=>subC r x
 | 1::r,.seq _ y=>subC r y
 | 0::r,.block _ c=>subC r c
 | 0::r,.cond _ x _=>subC r x
 | 1::r,.cond _ _ y=>subC r y
 | 0::r,.loop c=>subC r c
 | 0::r,.rangeFunc _ _ _ b=>subC r b
 | _,_=>none
end
end Go.Dm

/- Models of Go types and functions, printed by a program. -/
namespace Go.Dm
set_option linter.unusedVariables false
def Di (p0:Int) (p1:Int) (p2:Int):Option Bool:=(some ((decide (p0≥p1))&&(decide (p0≤p2))))
def Hc (n1:Unit→Option Bool) (y3:Bool):Option Bool:=(if y3 then (some false) else (n1 ()))
def Wg (p0:List Int) (p1:Int) (k1:Nat) (x1:Int) (s1:Unit) (n1:Unit→Option Bool):Option Bool:=(if (decide (x1<0)) then ((Hc n1) true) else (if (decide (x1≥p1)) then ((Hc n1) true) else (if (decide (((k1:Nat):Int)>0)) then (if 0≤(w64 (((k1:Nat):Int)-1))∧(w64 (((k1:Nat):Int)-1))<((p0.length:Nat):Int) then ((Hc n1) (decide ((p0.getD (Int.toNat (w64 (((k1:Nat):Int)-1))) 0)≥x1))) else none) else ((Hc n1) false))))
def AdY (s1:Unit):Option Bool:=(some true)
def Gu (p0:List Int) (p1:Int):Option Bool:=(if p0.length≤9223372036854775807 then Bo (Wg p0 p1) AdY p0 0 () else none)
def Bc (y2:Bool):Option Bool:=(some y2)
def Kh (p0:At) (y1:Int):Option Bool:=(if (p0.pidsMax==4611686018427387904) then (Option.bind (Di p0.weight 1 10000) fun r44=>(if r44 then (if (p0.quota==4611686018427387904) then (Option.bind (Di p0.period 1 1000000) fun r66=>(if r66 then (Option.bind (Di p0.burst 0 y1) fun r68=>(if r68 then (Option.bind (Di p0.clampMin 0 10000) fun r70=>(if r70 then (Option.bind (Di p0.clampMax 0 10000) fun r72=>(if r72 then (Option.bind (Gu p0.cpus 16) fun r74=>(if r74 then (Option.bind (Gu p0.mems 8) fun r76=>(if r76 then (Option.bind (Di p0.partition 0 1) fun r78=>(if r78 then (Option.bind (Dt p0.memory) fun r80=>(if r80 then (Option.bind (Dj p0.devices) fun r82=>(Bc r82)) else (Bc false))) else (Bc false))) else (Bc false))) else (Bc false))) else (Bc false))) else (Bc false))) else (Bc false))) else (Bc false))) else (Option.bind (Di p0.quota 1 1000000) fun r47=>(if r47 then (Option.bind (Di p0.period 1 1000000) fun r49=>(if r49 then (Option.bind (Di p0.burst 0 y1) fun r51=>(if r51 then (Option.bind (Di p0.clampMin 0 10000) fun r53=>(if r53 then (Option.bind (Di p0.clampMax 0 10000) fun r55=>(if r55 then (Option.bind (Gu p0.cpus 16) fun r57=>(if r57 then (Option.bind (Gu p0.mems 8) fun r59=>(if r59 then (Option.bind (Di p0.partition 0 1) fun r61=>(if r61 then (Option.bind (Dt p0.memory) fun r63=>(if r63 then (Option.bind (Dj p0.devices) fun r65=>(Bc r65)) else (Bc false))) else (Bc false))) else (Bc false))) else (Bc false))) else (Bc false))) else (Bc false))) else (Bc false))) else (Bc false))) else (Bc false)))) else (Bc false))) else (Option.bind (Di p0.pidsMax 0 1099511627776) fun r3=>(if r3 then (Option.bind (Di p0.weight 1 10000) fun r5=>(if r5 then (if (p0.quota==4611686018427387904) then (Option.bind (Di p0.period 1 1000000) fun r27=>(if r27 then (Option.bind (Di p0.burst 0 y1) fun r29=>(if r29 then (Option.bind (Di p0.clampMin 0 10000) fun r31=>(if r31 then (Option.bind (Di p0.clampMax 0 10000) fun r33=>(if r33 then (Option.bind (Gu p0.cpus 16) fun r35=>(if r35 then (Option.bind (Gu p0.mems 8) fun r37=>(if r37 then (Option.bind (Di p0.partition 0 1) fun r39=>(if r39 then (Option.bind (Dt p0.memory) fun r41=>(if r41 then (Option.bind (Dj p0.devices) fun r43=>(Bc r43)) else (Bc false))) else (Bc false))) else (Bc false))) else (Bc false))) else (Bc false))) else (Bc false))) else (Bc false))) else (Bc false))) else (Option.bind (Di p0.quota 1 1000000) fun r8=>(if r8 then (Option.bind (Di p0.period 1 1000000) fun r10=>(if r10 then (Option.bind (Di p0.burst 0 y1) fun r12=>(if r12 then (Option.bind (Di p0.clampMin 0 10000) fun r14=>(if r14 then (Option.bind (Di p0.clampMax 0 10000) fun r16=>(if r16 then (Option.bind (Gu p0.cpus 16) fun r18=>(if r18 then (Option.bind (Gu p0.mems 8) fun r20=>(if r20 then (Option.bind (Di p0.partition 0 1) fun r22=>(if r22 then (Option.bind (Dt p0.memory) fun r24=>(if r24 then (Option.bind (Dj p0.devices) fun r26=>(Bc r26)) else (Bc false))) else (Bc false))) else (Bc false))) else (Bc false))) else (Bc false))) else (Bc false))) else (Bc false))) else (Bc false))) else (Bc false)))) else (Bc false))) else (Bc false))))
def Pa (p0:At):Option Bool:=(if (p0.quota==4611686018427387904) then ((Kh p0) 0) else ((Kh p0) p0.quota))
def Nr (n1:Unit→Option Bool) (y4:Bool):Option Bool:=(if y4 then (some false) else (n1 ()))
def Vz (p0:Ae) (k1:Nat) (x1:Ab) (s1:Unit) (n1:Unit→Option Bool):Option Bool:=(if k1<p0.nodes.length then (if (x1.group != (p0.nodes.getD k1 (default:Ax)).id) then ((Nr n1) true) else (Option.bind (Pa x1.settings) fun r21=>((Nr n1) (!r21)))) else none)
def AdG (s1:Unit):Option Bool:=(some true)
def Pn (p0:Ae) (p1:List Ab) (y1:Bool):Option Bool:=(if y1 then (some false) else (if p1.length≤9223372036854775807 then Bo (Vz p0) AdG p1 0 () else none))
def Mo (p0:Ae) (p1:List Ab):Option Bool:=(Option.bind (Ky p0) fun r1=>(if (!r1) then ((Pn p0 p1) true) else ((Pn p0 p1) (((p1.length:Nat):Int) != ((p0.nodes.length:Nat):Int)))))
def Nu (p0:List Int):Option (List Int):=(some p0)
def Rj (p0:List Ab) (p1:List Int) (p2:Int):Option ((List Ab)×(List Int)):=(Option.bind (Nm p0 p2) fun r1=>(Option.bind (Pp r1.mems p1) fun r2=>(some (p0,r2))))
def Mv (p0:Ae) (p1:List Ab) (p2:List Int) (p3:Int):Option (List Int):=(Option.bind (Hz p0 p1 p2 8) fun r1=>(if (!r1) then (some []) else (Option.bind (Np p0 p3) fun r3=>(if (((r3.length:Nat):Int)==0) then (some []) else (Option.bind (Co p2) fun r5=>(if 0≤(w64 (((r3.length:Nat):Int)-1))∧(w64 (((r3.length:Nat):Int)-1))≤((r3.length:Nat):Int) then (Option.bind (Nu (r3.take (Int.toNat (w64 (((r3.length:Nat):Int)-1))))) fun r9=>(if r9.length<4611686018427387904 then (Option.bind (Tj (fun (x:Int) (s:(List Ab)×(List Int))=>(Rj s.1 s.2 x)) (List.reverse r9) (p1,r5)) fun r10=>(some r10.2)) else none)) else none))))))
noncomputable def AaW (r3:plan) (k1:Nat) (x1:Ax) (s1:List (List Int)) (n1:(List (List Int))→Option (List (List Int))):Option (List (List Int)):=(Option.bind (Co (r3.sets.get x1.id)) fun r15=>(if s1.length+1≤1073741824 then (n1 (s1 ++ [r15])) else none))
noncomputable def AdB (s1:List (List Int)):Option (List (List Int)):=(some s1)
noncomputable def Ob (p0:Ae) (p1:List Ab) (p2:List Int):Option (List (List Int)):=(Option.bind (Hz p0 p1 p2 16) fun r1=>(if (!r1) then (some []) else (Option.bind (Tc p0 p1 p2) fun r3=>(if p0.nodes.length≤9223372036854775807 then Bo (AaW r3) AdB p0.nodes 0 [] else none))))
end Go.Dm

/- Plain theory of processor sets, part 8: memory nodes; all sets; what lies apart. -/
namespace Go.Dm
set_option linter.unusedVariables false
set_option linter.unusedSimpArgs false
variable {t : Ae} {l:List Ab} {on:List Int}
theorem Ahb {S:Type} {step:Int→S→Option S} : ∀ (a b:List Int) (s:S),Tj step (a++b) s=(Tj step a s).bind (fun s'=>Tj step b s')
 | [],b,s=>rfl
 | x::a,b,s=>by
  simp only [List.cons_append,Tj]
  cases step x s with
  | none=>rfl
  | some s'=>exact Ahb a b s'
def Ol (l:List Ab) (on:List Int):List Int→List Int
 | []=>on
 | [_]=>on
 | c::p::r=>Lk (cfg l c).mems (Ol l on (p::r))
def memsC (t:Ae) (l:List Ab) (on:List Int) (g:Int):List Int:=Ol l on (upT t g)
structure UseM (t:Ae) (l:List Ab) (on:List Int):Prop where
 fits:FitsS t l
 pos:0<on.length
 set:okSet 8 on
theorem Agn (u:UseM t l on):∀ L:List Int,Asc (Ol l on L)∧(∀ y∈Ol l on L,y∈on)∧0<(Ol l on L).length
 | []=>⟨u.set.1,fun y h=>h,u.pos⟩
 | [_]=>⟨u.set.1,fun y h=>h,u.pos⟩
 | c::p::r=>by
  obtain ⟨h1,h2,h3⟩:=Agn u (p::r)
  exact ⟨AgR (u.fits.cfg c).small.2.2.2 h1,fun y hy=>h2 y (Ahh y hy),AgY h3⟩
theorem okSet_sub {n:Int} {A B:List Int} (hb:okSet n B) (ha:Asc A) (h:∀ y∈A,y∈B):okSet n A:=⟨ha,fun y hy=>hb.2 y (h y hy)⟩
theorem Afz (u:UseM t l on) (L:List Int):(Ol l on L).length≤8:=by
 obtain ⟨h1,h2,_⟩:=Agn u L
 have:=(okSet_sub u.set h1 h2).len (by omega)
 omega
theorem Aip (u:UseM t l on) (hs:∀ x∈l,Cz x.settings):∀ (L:List Int),L ≠ [] →
  Tj (fun (x:Int) (s:(List Ab)×(List Int))=>(Rj s.1 s.2 x)) (List.reverse L.dropLast) (l,on)=some (l,Ol l on L)
 | [],h=>absurd rfl h
 | [_],_=>rfl
 | c::p::r,_=>by
  have ih:=Aip u hs (p::r) (by simp)
  have hl:=u.fits.len
  have hn:=u.fits.wf.len2
  rw [List.dropLast_cons_of_ne_nil (by simp),List.reverse_cons,Ahb,ih,Option.bind_some]
  have h8:=Afz u (p::r)
  obtain ⟨h1,_⟩:=Agn u (p::r)
  simp only [Tj,Rj]
  rw [Xf (by omega) hs,Option.bind_some,Ain (u.fits.cfg c).small.2.2.2 (by have:=(u.fits.cfg c).small.2.1; omega) (by omega),Option.bind_some]
  rfl
theorem Mems_t (u:UseM t l on) (hs:∀ x∈l,Cz x.settings) (g:Int):Mv t l on g=some (if El t g then memsC t l on g else []):=by
 have w:=u.fits.wf
 have hl:=u.fits.len
 have hn:=w.len2
 have h8:=u.set.len (by omega)
 obtain ⟨b,h1,h2⟩:=Aao (t:=t) (l:=l) (on:=on) (n:=8) w.p.names (by omega) (by omega) hs (by omega)
 unfold Mv
 rw [h1,h2.mpr ⟨u.fits,u.pos,u.set⟩,Option.bind_some,if_neg (by simp),Ads w,Option.bind_some]
 by_cases hg:El t g=true
 ·obtain ⟨r,er⟩:=Aaq w hg
  have hul:(upT t g).length≤1000:=by
   have:=Ww t.nodes.reverse g
   rw [List.length_reverse] at this
   unfold upT
   omega
  have hp:0<(upT t g).length:=by rw [er]; simp
  rw [if_pos hg,if_neg (by simp; rw [er]; simp),Qf (by omega),Option.bind_some]
  have e1:w64 (((upT t g).length:Int)-1)=(((upT t g).length-1:Nat):Int):=by
   rw [Bb (by omega) (by omega)]
   omega
  rw [e1,if_pos (by omega)]
  unfold Nu
  rw [Option.bind_some,if_pos (by simp; omega)]
  have e2:(upT t g).take (Int.toNat (((upT t g).length-1:Nat):Int))=(upT t g).dropLast:=by
   rw [Int.toNat_natCast,List.dropLast_eq_take]
  rw [e2,Aip u hs (upT t g) (by rw [er]; simp),Option.bind_some]
  rfl
 ·have e:upT t g = []:=by
   cases hu:upT t g with
   | nil=>rfl
   | cons a r =>
    obtain ⟨n,hn,he⟩:=Ni (t:=t) (x:=g) (k:=a) (by rw [hu]; simp)
    exact absurd (hasN_iff.mpr ⟨n,hn,he⟩) hg
  rw [if_neg hg,e,if_pos (by simp)]
theorem All_t (u:UseS t l on) (hs:∀ x∈l,Cz x.settings):Ob t l on=some (t.nodes.map (fun x=>Ll t l on x.id)):=by
 obtain ⟨p,h1,h2,_⟩:=of_t u hs
 have hn:=u.w.len2
 unfold Ob
 rw [Afo u hs,Option.bind_some,if_neg (by simp),h1,Option.bind_some,if_pos (by omega)]
 apply Ok.eq
 refine Ok.range (fun pre s=>s=pre.map (fun x=>Ll t l on x.id)) rfl ?_ ?_
 ·intro pre x post s n he hi hm
  have hx:x∈t.nodes:=by rw [he]; simp
  have hpl:pre.length<t.nodes.length:=by rw [he]; simp
  have hh:El t x.id=true:=hasN_iff.mpr ⟨x,hx,rfl⟩
  unfold AaW
  rw [h2 x.id,if_pos hh,Qf (by have:=(Xp u hh).2.2.2; omega),Option.bind_some]
  refine Ok.guard (by rw [hi]; simp; omega) (hm _ (by rw [hi]; simp))
 ·intro s hi
  exact Ok.of_eq rfl hi
end Go.Dm

/- Plain theory of processor sets, part 9: settings that are changed, by the document. -/
namespace Go.Dm
set_option linter.unusedVariables false
set_option linter.unusedSimpArgs false
variable {t : Ae} {l m:List Ab} {on:List Int}
theorem Aej {n:Int} {L:List Int} (h:okSet n L) (hl:L.length≤1000000):Gu L n=some true:=by
 unfold Gu
 rw [if_pos (by omega)]
 apply Ok.eq
 refine Ok.range (fun _ _=>True) trivial ?_ fun _ _=>Ok.ret rfl
 intro pre x post s m he _ hm
 have hx:=h.2 x (by rw [he]; simp)
 have hlen:pre.length+1≤L.length:=by rw [he]; simp
 have hJ:Ok (Hc m false) (· = true):=by
  unfold Hc
  rw [if_neg (by simp)]
  exact hm () trivial
 unfold Wg
 rw [if_neg (by simp; omega),if_neg (by simp; omega)]
 refine Ok.ite (fun c3 => ?_) fun _=>hJ
 have c3:=of_decide_eq_true c3
 have h0:0<pre.length:=by omega
 rw [AgL (post:=post) (x:=x) (d:=0) (by omega) h0]
 refine Ok.guard (by omega) ?_
 have hlast:L.getD (pre.length-1) 0=pre.getD (pre.length-1) 0:=by
  rw [he,List.getD_eq_getElem?_getD,List.getD_eq_getElem?_getD,List.getElem?_append_left (by omega)]
 simp only [Int.toNat_natCast,hlast]
 have ha:=h.1
 rw [he,Asc,List.pairwise_append] at ha
 have:=ha.2.2 (pre.getD (pre.length-1) 0) (Oy (by omega)) x (by simp)
 rw [show decide (pre.getD (pre.length-1) 0≥x)=false from decide_eq_false (by omega)]
 exact hJ
theorem Cs {a lo hi:Int} (h:lo≤a∧a≤hi):Di a lo hi=some true:=by
 unfold Di
 simp [h.1,h.2]
theorem Adj {s:At} (h:CheckP s):Pa s=some true:=by
 obtain ⟨h1,h2,⟨h3,h4⟩,h5,h6,h7,h8,h9,h10,h11⟩:=h
 have l1:=h7.len (by omega)
 have l2:=h8.len (by omega)
 have e7:=Aej h7 (by omega)
 have e8:=Aej h8 (by omega)
 have key:∀ y,(0≤s.burst∧s.burst≤y)→(s.quota=4611686018427387904∨(1≤s.quota∧s.quota≤1000000))→Kh s y=some true:=by
  intro y hy hq
  unfold Kh Bc
  by_cases c1:s.pidsMax=4611686018427387904
  ·rw [if_pos (by simp [c1])]
   by_cases c2:s.quota=4611686018427387904
   ·have c2':(s.quota==4611686018427387904)=true:=by simp [c2]
    simp only [Cs h2,Cs h3,Cs hy,Cs h5,Cs h6,e7,e8,Cs h9,h10,h11,c2',Option.bind_some,if_true]
   ·have c2':¬ (s.quota==4611686018427387904)=true:=by simp [c2]
    have hq':=hq.resolve_left c2
    simp only [Cs h2,Cs h3,Cs hy,Cs h5,Cs h6,e7,e8,Cs h9,h10,h11,c2',Cs hq',Option.bind_some,if_true,if_false]
    simp
  ·have h1':=h1.resolve_left c1
   rw [if_neg (by simp [c1])]
   by_cases c2:s.quota=4611686018427387904
   ·have c2':(s.quota==4611686018427387904)=true:=by simp [c2]
    simp only [Cs h1',Cs h2,Cs h3,Cs hy,Cs h5,Cs h6,e7,e8,Cs h9,h10,h11,c2',Option.bind_some,if_true]
   ·have c2':¬ (s.quota==4611686018427387904)=true:=by simp [c2]
    have hq':=hq.resolve_left c2
    simp only [Cs h1',Cs h2,Cs h3,Cs hy,Cs h5,Cs h6,e7,e8,Cs h9,h10,h11,c2',Cs hq',Option.bind_some,if_true,if_false]
    simp
 unfold Pa
 by_cases c2:s.quota=4611686018427387904
 ·rw [if_pos c2] at h4
  rw [if_pos (by simp [c2])]
  exact key 0 (by omega) (.inl c2)
 ·rw [if_neg c2] at h4
  rw [if_neg (by simp [c2])]
  exact key _ h4.2 (.inr h4.1)
theorem AaQ (f:FitsS t l) (hs:∀ x∈l,Cz x.settings):Mo t l=some true:=by
 have w:=f.wf
 have hn:=w.len2
 have hl:=f.len
 unfold Mo Pn
 rw [Pq w,Option.bind_some,if_neg (by simp),if_neg (by rw [hl]; simp),if_pos (by omega)]
 apply Ok.eq
 refine Ok.range (fun _ _=>True) trivial ?_ fun _ _=>Ok.ret rfl
 intro pre x post s n he _ hm
 have hx:x∈l:=by rw [he]; simp
 have hpl:pre.length<t.nodes.length:=by rw [← hl,he]; simp
 have hg:=grp_at f hpl
 have hxd:l.getD pre.length default=x:=by rw [he]; exact Vf
 rw [hxd] at hg
 unfold Vz Nr
 refine Ok.guard hpl ?_
 rw [hg,if_neg (by simp),Adj (f.chk x hx),Option.bind_some]
 exact hm () trivial
end Go.Dm

/- Models of Go types and functions, printed by a program. -/
namespace Go.Dm
set_option linter.unusedVariables false
structure place where
 group:Int
 cpus:List Int
 alone:Bool
 deriving Inhabited
def encplace (x:place):List PV := [vi x.group,Ly 1 Au 0 x.cpus,vb x.alone]
abbrev dplace : place:=default
abbrev roplace (L:List place):Body:=Hj 3 encplace (default:place) L
abbrev elplace (L:List place):Nat→List PV:=elems encplace (default:place) L
def Nw (y1:Bool):Option Bool:=(some y1)
def Ju (p0:Ae) (p1:List Ab) (p2:List Int) (p3:Int):Option Bool:=(Option.bind (Mo p0 p1) fun r1=>(if r1 then (Option.bind (Gu p2 p3) fun r3=>(if r3 then (Nw (decide (((p2.length:Nat):Int)>0))) else (Nw false))) else (Nw false)))
def Mz (n1:((List Int)×(List Int))→Option (List place)) (y11:(List Int)×(List Int)):Option (List place):=(n1 (y11.1,y11.2))
def Dq (x1:Int) (s1:(List Int)×(List Int)) (n1:((List Int)×(List Int))→Option (List place)) (r87:At) (y12:Bool):Option (List place):=(if y12 then (Option.bind (Qj s1.2 r87.cpus) fun r98=>(if s1.1.length+1≤1073741824 then ((Mz n1) ((s1.1 ++ [x1]),r98)) else none)) else ((Mz n1) (s1.1,s1.2)))
def Zq (p1:List Ab) (p3:Int) (p5:Bool) (k1:Nat) (x1:Int) (s1:(List Int)×(List Int)) (n1:((List Int)×(List Int))→Option (List place)):Option (List place):=(Option.bind (Jl p1 x1) fun r87=>(if (r87.partition==1) then (if (p3==1) then (if (decide (((r87.cpus.length:Nat):Int)>0)) then (Option.bind (Kx r87.cpus s1.2) fun r95=>(if r95 then ((Dq x1 s1 n1 r87) (decide (((s1.2.length:Nat):Int)>((r87.cpus.length:Nat):Int)))) else ((Dq x1 s1 n1 r87) false))) else ((Dq x1 s1 n1 r87) false)) else (if p5 then (if (decide (((r87.cpus.length:Nat):Int)>0)) then (Option.bind (Kx r87.cpus s1.2) fun r92=>(if r92 then ((Dq x1 s1 n1 r87) (decide (((s1.2.length:Nat):Int)>((r87.cpus.length:Nat):Int)))) else ((Dq x1 s1 n1 r87) false))) else ((Dq x1 s1 n1 r87) false)) else ((Dq x1 s1 n1 r87) false))) else ((Dq x1 s1 n1 r87) false)))
def Nh (n4:(List place)→Option (List place)) (y17:List place):Option (List place):=(n4 y17)
def Ng (rec:Ae→(List Ab)→(List place)→Int→(List Int)→Bool→Option (List place)) (p0:Ae) (p1:List Ab) (x4:Int) (s4:List place) (n4:(List place)→Option (List place)) (y18:List Int):Option (List place):=(Option.bind (rec p0 p1 s4 x4 y18 false) fun r147=>((Nh n4) r147))
def Zn (rec:Ae→(List Ab)→(List place)→Int→(List Int)→Bool→Option (List place)) (p0:Ae) (p1:List Ab) (s1:(List Int)×(List Int)) (k4:Nat) (x4:Int) (s4:List place) (n4:(List place)→Option (List place)):Option (List place):=(Option.bind (Jl p1 x4) fun r140=>(Option.bind (Ns s1.1 x4) fun r141=>(if r141 then (Option.bind (rec p0 p1 s4 x4 r140.cpus true) fun r144=>((Nh n4) r144)) else (Option.bind (Jm r140.cpus s1.2) fun r145=>(if (((r145.length:Nat):Int)==0) then ((Ng rec p0 p1 x4 s4 n4) s1.2) else ((Ng rec p0 p1 x4 s4 n4) r145))))))
def Zr (s4:List place):Option (List place):=(some s4)
def Ra (rec:Ae→(List Ab)→(List place)→Int→(List Int)→Bool→Option (List place)) (p0:Ae) (p1:List Ab) (p2:List place) (p3:Int) (p5:Bool) (r1:List Int) (s1:(List Int)×(List Int)):Option (List place):=(if p2.length+1≤1073741824 then (if r1.length≤9223372036854775807 then Bo (Zn rec p0 p1 s1) Zr r1 0 (p2 ++ [({ group:=p3,cpus:=s1.2,alone:=p5 } : place)]) else none) else none)
def Tf (rec:Ae→(List Ab)→(List place)→Int→(List Int)→Bool→Option (List place)) (p0:Ae) (p1:List Ab) (p2:List place) (p3:Int) (p4:List Int) (p5:Bool):Option (List place):=(Option.bind (Mc p0 p3) fun r1=>(if r1.length≤9223372036854775807 then Bo (Zq p1 p3 p5) (Ra rec p0 p1 p2 p3 p5 r1) r1 0 ([],p4) else none))
def Hx : Nat→Ae→(List Ab)→(List place)→Int→(List Int)→Bool→Option (List place)
 | 0,_,_,_,_,_,_=>none
 | n+1,p0,p1,p2,p3,p4,p5=>Tf (Hx n) p0 p1 p2 p3 p4 p5
def Acb (p0:Ae) (p1:List Ab) (p2:List place) (p3:Int) (p4:List Int) (p5:Bool):Option (List place):=Hx Fh p0 p1 p2 p3 p4 p5
def Mm (n1:((List Int)×(List Int))→Option (List place)) (y11:(List Int)×(List Int)):Option (List place):=(n1 (y11.1,y11.2))
def Ef (x1:Int) (s1:(List Int)×(List Int)) (n1:((List Int)×(List Int))→Option (List place)) (r85:At) (y12:Bool):Option (List place):=(if y12 then (Option.bind (Qj s1.2 r85.cpus) fun r96=>(if s1.1.length+1≤1073741824 then ((Mm n1) ((s1.1 ++ [x1]),r96)) else none)) else ((Mm n1) (s1.1,s1.2)))
def Xj (p1:List Ab) (p3:Int) (p5:Bool) (k1:Nat) (x1:Int) (s1:(List Int)×(List Int)) (n1:((List Int)×(List Int))→Option (List place)):Option (List place):=(Option.bind (Jl p1 x1) fun r85=>(if (r85.partition==1) then (if (p3==1) then (if (decide (((r85.cpus.length:Nat):Int)>0)) then (Option.bind (Kx r85.cpus s1.2) fun r93=>(if r93 then ((Ef x1 s1 n1 r85) (decide (((s1.2.length:Nat):Int)>((r85.cpus.length:Nat):Int)))) else ((Ef x1 s1 n1 r85) false))) else ((Ef x1 s1 n1 r85) false)) else (if p5 then (if (decide (((r85.cpus.length:Nat):Int)>0)) then (Option.bind (Kx r85.cpus s1.2) fun r90=>(if r90 then ((Ef x1 s1 n1 r85) (decide (((s1.2.length:Nat):Int)>((r85.cpus.length:Nat):Int)))) else ((Ef x1 s1 n1 r85) false))) else ((Ef x1 s1 n1 r85) false)) else ((Ef x1 s1 n1 r85) false))) else ((Ef x1 s1 n1 r85) false)))
def Ml (n4:(List place)→Option (List place)) (y17:List place):Option (List place):=(n4 y17)
def Ms (p0:Ae) (p1:List Ab) (x4:Int) (s4:List place) (n4:(List place)→Option (List place)) (y18:List Int):Option (List place):=(Option.bind (Acb p0 p1 s4 x4 y18 false) fun r144=>((Ml n4) r144))
def Xm (p0:Ae) (p1:List Ab) (s1:(List Int)×(List Int)) (k4:Nat) (x4:Int) (s4:List place) (n4:(List place)→Option (List place)):Option (List place):=(Option.bind (Jl p1 x4) fun r137=>(Option.bind (Ns s1.1 x4) fun r138=>(if r138 then (Option.bind (Acb p0 p1 s4 x4 r137.cpus true) fun r141=>((Ml n4) r141)) else (Option.bind (Jm r137.cpus s1.2) fun r142=>(if (((r142.length:Nat):Int)==0) then ((Ms p0 p1 x4 s4 n4) s1.2) else ((Ms p0 p1 x4 s4 n4) r142))))))
def Xi (s4:List place):Option (List place):=(some s4)
def Nv (p0:Ae) (p1:List Ab) (p3:Int) (p5:Bool) (r1:List Int) (s1:(List Int)×(List Int)):Option (List place):=(if r1.length≤9223372036854775807 then Bo (Xm p0 p1 s1) Xi r1 0 [({ group:=p3,cpus:=s1.2,alone:=p5 } : place)] else none)
def Mf (p0:Ae) (p1:List Ab) (p3:Int) (p4:List Int) (p5:Bool):Option (List place):=(Option.bind (Mc p0 p3) fun r1=>(if r1.length≤9223372036854775807 then Bo (Xj p1 p3 p5) (Nv p0 p1 p3 p5 r1) r1 0 ([],p4) else none))
def Lc (p0:Ae) (p1:List Ab) (p2:List Int):Option (List place):=(Option.bind (Ju p0 p1 p2 16) fun r1=>(if (!r1) then (some []) else (Option.bind (Mf p0 p1 1 p2 false) fun r3=>(some r3))))
def Wy (p3:Int) (k1:Nat) (x1:place) (s1:Unit) (n1:Unit→Option (List Int)):Option (List Int):=(if (x1.group==p3) then (if x1.cpus.length≤1073741824 then (some x1.cpus) else none) else (n1 ()))
def AaR (s1:Unit):Option (List Int):=(some [])
def Jw (p0:Ae) (p1:List Ab) (p2:List Int) (p3:Int):Option (List Int):=(Option.bind (Lc p0 p1 p2) fun r1=>(if r1.length≤9223372036854775807 then Bo (Wy p3) AaR r1 0 () else none))
def AbV (p0:Ae) (p1:List Ab) (p2:List Int) (k1:Nat) (x1:Ax) (s1:List (List Int)) (n1:(List (List Int))→Option (List (List Int))):Option (List (List Int)):=(Option.bind (Jw p0 p1 p2 x1.id) fun r16=>(if s1.length+1≤1073741824 then (n1 (s1 ++ [r16])) else none))
def AeX (s1:List (List Int)):Option (List (List Int)):=(some s1)
def Qh (p0:Ae) (p1:List Ab) (p2:List Int):Option (List (List Int)):=(Option.bind (Ju p0 p1 p2 16) fun r1=>(if (!r1) then (some []) else (if p0.nodes.length≤9223372036854775807 then Bo (AbV p0 p1 p2) AeX p0.nodes 0 [] else none)))
def Lm (n1:(List Int)→Option (List Int)) (y3:List Int):Option (List Int):=(n1 y3)
def So (k1:Nat) (x1:place) (s1:List Int) (n1:(List Int)→Option (List Int)):Option (List Int):=(if x1.alone then (if s1.length+1≤1073741824 then ((Lm n1) (s1 ++ [x1.group])) else none) else ((Lm n1) s1))
def Ln (s1:List Int):Option (List Int):=(Option.bind (Mw s1) fun r22=>(some r22))
def Gc (p0:Ae) (p1:List Ab) (p2:List Int):Option (List Int):=(Option.bind (Lc p0 p1 p2) fun r1=>(if r1.length≤9223372036854775807 then Bo So Ln r1 0 [] else none))
def Qa (s1:(List Int)×Int) (n1:((List Int)×Int)→Option (List Int)) (y3:List Int):Option (List Int):=(n1 (y3,(w64 (s1.2-1))))
def AaY (p1:List Ab) (r1:List Int) (s1:(List Int)×Int) (n1:((List Int)×Int)→Option (List Int)):Option (List Int):=(if (decide (s1.2≥0)) then (if 0≤s1.2∧s1.2<((r1.length:Nat):Int) then (if (Int.toNat s1.2)<r1.length then (Option.bind (Jl p1 (r1.getD (Int.toNat s1.2) 0)) fun r19=>(Option.bind (Jm r19.mems s1.1) fun r20=>(if (decide (((r20.length:Nat):Int)>0)) then ((Qa s1 n1) r20) else ((Qa s1 n1) s1.1)))) else none) else none) else (some s1.1))
def Po (p1:List Ab) (p2:List Int) (r1:List Int) (y1:Bool):Option (List Int):=(if y1 then (some []) else (if p2.length≤1073741824 then (whileO (AaY p1 r1) Fh (p2,(w64 (((r1.length:Nat):Int)-2)))) else none))
def Oa (p0:Ae) (p1:List Ab) (p2:List Int) (p3:Int):Option (List Int):=(Option.bind (Nd p0 p3) fun r1=>(Option.bind (Ju p0 p1 p2 8) fun r2=>(if (!r2) then ((Po p1 p2 r1) true) else ((Po p1 p2 r1) (((r1.length:Nat):Int)==0)))))
def Ix (p0:Ae) (p1:List Ab) (p2:List Int) (p3:Int):Option Bool:=(Option.bind (Gc p0 p1 p2) fun r1=>(Option.bind (Ns r1 p3) fun r2=>(some r2)))
noncomputable def Te (r1283:List (List Int)) (k37:Nat) (x37:List Int) (s37:Unit) (n37:Unit→Option Bool):Option Bool:=(if k37<r1283.length then (if k37<r1283.length then (Option.bind (Hg x37 (r1283.getD k37 [])) fun r1390=>(if (!r1390) then (some false) else (n37 ()))) else none) else none)
noncomputable def Jj (n40:Unit→Option Bool) (y91:Bool):Option Bool:=(if y91 then (some false) else (n40 ()))
noncomputable def Sz (r6:Ae×Ak) (x1:List Ab) (x28:List Int) (k40:Nat) (x40:Int) (s40:Unit) (n40:Unit→Option Bool):Option Bool:=(Option.bind (Ev r6.1 x1 x28 x40) fun r1423=>(Option.bind (Jw r6.1 x1 x28 x40) fun r1424=>(Option.bind (Hg r1423 r1424) fun r1425=>(if (!r1425) then ((Jj n40) true) else (Option.bind (Mv r6.1 x1 x28 x40) fun r1427=>(Option.bind (Oa r6.1 x1 x28 x40) fun r1428=>(Option.bind (Hg r1427 r1428) fun r1429=>(if (!r1429) then ((Jj n40) true) else (Option.bind (Ff r6.1 x1 x28 x40) fun r1431=>(Option.bind (Ix r6.1 x1 x28 x40) fun r1432=>((Jj n40) (r1431 != r1432))))))))))))
noncomputable def Sv (n28:Ak→Option Bool) (r1393:Int×Ak) (s40:Unit):Option Bool:=(n28 r1393.2)
noncomputable def Sl (p2:Int) (r6:Ae×Ak) (x1:List Ab) (x28:List Int) (s28:Ak) (n28:Ak→Option Bool) (s37:Unit):Option Bool:=(Option.bind (Lt s28 r6.1) fun r1392=>(Option.bind (Lt r1392.2 r6.1) fun r1393=>(if [p2,r1392.1,r1393.1].length≤9223372036854775807 then Bo (Sz r6 x1 x28) (Sv n28 r1393) [p2,r1392.1,r1393.1] 0 () else none)))
noncomputable def Ld (p2:Int) (r6:Ae×Ak) (x1:List Ab) (x28:List Int) (s28:Ak) (n28:Ak→Option Bool) (r1282:List (List Int)) (r1283:List (List Int)) (y82:Bool):Option Bool:=(if y82 then (some false) else (if r1282.length≤9223372036854775807 then Bo (Te r1283) (Sl p2 r6 x1 x28 s28 n28) r1282 0 () else none))
noncomputable def Od (p2:Int) (r6:Ae×Ak) (x1:List Ab) (k28:Nat) (x28:List Int) (s28:Ak) (n28:Ak→Option Bool):Option Bool:=(Option.bind (Ob r6.1 x1 x28) fun r1282=>(Option.bind (Qh r6.1 x1 x28) fun r1283=>(if (((r1282.length:Nat):Int) != ((r1283.length:Nat):Int)) then ((Ld p2 r6 x1 x28 s28 n28 r1282 r1283) true) else (Option.bind (Fp r6.1 x1 x28) fun r1285=>(Option.bind (Gc r6.1 x1 x28) fun r1286=>(Option.bind (Hg r1285 r1286) fun r1287=>((Ld p2 r6 x1 x28 s28 n28 r1282 r1283) (!r1287))))))))
noncomputable def Sm (n1:Ak→Option Bool) (s28:Ak):Option Bool:=(n1 s28)
noncomputable def Uh (p1:List Int) (p2:Int) (r6:Ae×Ak) (k1:Nat) (x1:List Ab) (s1:Ak) (n1:Ak→Option Bool):Option Bool:=(Option.bind (Hs s1 6) fun r969=>(Option.bind (Hs r969.2 4) fun r970=>(if [p1,r969.1,r970.1,[]].length≤9223372036854775807 then Bo (Od p2 r6 x1) (Sm n1) [p1,r969.1,r970.1,[]] 0 r970.2 else none)))
noncomputable def Uc (s1:Ak):Option Bool:=(Option.bind Ql fun r1434=>(some r1434))
noncomputable def It (p0:List Int) (p1:List Int) (p2:Int) (y1:Bool):Option Bool:=(if y1 then (Option.bind Ql fun r4=>(some r4)) else (Option.bind (Aeg p0) fun r5=>(Option.bind (Pg r5 8) fun r6=>(Option.bind (Mi r6.2 r6.1) fun r7=>(if r7.1.length≤1073741824 then (Option.bind (Cm r7.2 ((r7.1.length:Nat):Int)) fun r9=>(if 0≤r9.1∧r9.1<((r7.1.length:Nat):Int) then (if (Int.toNat r9.1)<r7.1.length then (if [r7.1,(r7.1.set (Int.toNat r9.1) ({ group:=(r7.1.getD (Int.toNat r9.1) (default:Ab)).group,settings:=({ pidsMax:=(r7.1.getD (Int.toNat r9.1) (default:Ab)).settings.pidsMax,weight:=0,quota:=(r7.1.getD (Int.toNat r9.1) (default:Ab)).settings.quota,period:=(r7.1.getD (Int.toNat r9.1) (default:Ab)).settings.period,burst:=(r7.1.getD (Int.toNat r9.1) (default:Ab)).settings.burst,clampMin:=(r7.1.getD (Int.toNat r9.1) (default:Ab)).settings.clampMin,clampMax:=(r7.1.getD (Int.toNat r9.1) (default:Ab)).settings.clampMax,cpus:=(r7.1.getD (Int.toNat r9.1) (default:Ab)).settings.cpus,mems:=(r7.1.getD (Int.toNat r9.1) (default:Ab)).settings.mems,partition:=(r7.1.getD (Int.toNat r9.1) (default:Ab)).settings.partition,memory:=(r7.1.getD (Int.toNat r9.1) (default:Ab)).settings.memory,devices:=(r7.1.getD (Int.toNat r9.1) (default:Ab)).settings.devices } : At) } : Ab))].length≤9223372036854775807 then Bo (Uh p1 p2 r6) Uc [r7.1,(r7.1.set (Int.toNat r9.1) ({ group:=(r7.1.getD (Int.toNat r9.1) (default:Ab)).group,settings:=({ pidsMax:=(r7.1.getD (Int.toNat r9.1) (default:Ab)).settings.pidsMax,weight:=0,quota:=(r7.1.getD (Int.toNat r9.1) (default:Ab)).settings.quota,period:=(r7.1.getD (Int.toNat r9.1) (default:Ab)).settings.period,burst:=(r7.1.getD (Int.toNat r9.1) (default:Ab)).settings.burst,clampMin:=(r7.1.getD (Int.toNat r9.1) (default:Ab)).settings.clampMin,clampMax:=(r7.1.getD (Int.toNat r9.1) (default:Ab)).settings.clampMax,cpus:=(r7.1.getD (Int.toNat r9.1) (default:Ab)).settings.cpus,mems:=(r7.1.getD (Int.toNat r9.1) (default:Ab)).settings.mems,partition:=(r7.1.getD (Int.toNat r9.1) (default:Ab)).settings.partition,memory:=(r7.1.getD (Int.toNat r9.1) (default:Ab)).settings.memory,devices:=(r7.1.getD (Int.toNat r9.1) (default:Ab)).settings.devices } : At) } : Ab))] 0 r9.2 else none) else none) else none)) else none)))))
noncomputable def Oj (p0:List Int) (p1:List Int) (p2:Int):Option Bool:=(Option.bind (Zy p0) fun r1=>(if (!r1) then ((It p0 p1 p2) true) else ((It p0 p1 p2) (decide (((p1.length:Nat):Int)>40)))))
end Go.Dm

/- Plain theory of processor sets, part 10: the document's sets of all groups. -/
namespace Go.Dm
set_option linter.unusedVariables false
set_option linter.unusedSimpArgs false
variable {t : Ae} {l:List Ab} {on:List Int}
theorem AgF (L:List Int) (n:Int) (hl:L.length≤9223372036854775807):Ok (Gu L n) (fun b=>b=true↔okSet n L):=by
 unfold Gu
 refine Ok.guard hl ?_
 refine Ok.range (fun pre _=>okSet n pre) ⟨List.Pairwise.nil,fun x hx=>by simp at hx⟩ ?_ fun _ h=>Ok.ret (by simp [h])
 intro pre x post s m he hp hn
 have hlen:pre.length+1≤L.length:=by rw [he]; simp
 have bad:¬ okSet n L→Ok (Hc m true) (fun b=>b=true↔okSet n L):=fun h=>by
  unfold Hc
  rw [if_pos rfl]
  exact Ok.ret (by simp [h])
 have good:okSet n (pre ++ [x])→Ok (Hc m false) (fun b=>b=true↔okSet n L):=fun h=>by
  unfold Hc
  rw [if_neg (by simp)]
  exact hn () h
 unfold Wg
 refine Ok.ite (fun c=>bad ?_) fun c=>Ok.ite (fun c2=>bad ?_) fun c2 => ?_
 ·have c:=of_decide_eq_true c
  intro ⟨_,hb⟩
  have:=hb x (by rw [he]; simp)
  omega
 ·have c2:=of_decide_eq_true c2
  intro ⟨_,hb⟩
  have:=hb x (by rw [he]; simp)
  omega
 ·have c:=of_decide_eq_false c
  have c2:=of_decide_eq_false c2
  refine Ok.ite (fun c3 => ?_) fun c3 => ?_
  ·have c3:=of_decide_eq_true c3
   have h0:0<pre.length:=by omega
   rw [AgL (post:=post) (x:=x) (d:=0) (by omega) h0]
   refine Ok.guard (by omega) ?_
   have hlast:L.getD (pre.length-1) 0=pre.getD (pre.length-1) 0:=by
    rw [he,List.getD_eq_getElem?_getD,List.getD_eq_getElem?_getD,List.getElem?_append_left (by omega)]
   simp only [Int.toNat_natCast,hlast]
   by_cases c4:pre.getD (pre.length-1) 0≥x
   ·rw [decide_eq_true c4]
    refine bad ?_
    intro ⟨ha,_⟩
    rw [he,Asc,List.pairwise_append] at ha
    have:=ha.2.2 (pre.getD (pre.length-1) 0) (Oy (by omega)) x (by simp)
    omega
   ·rw [decide_eq_false c4]
    refine good ⟨?_,fun y hy => ?_⟩
    ·refine AcG hp.1 fun y hy => ?_
     obtain ⟨j,hj,rfl⟩:=List.getElem_of_mem hy
     have hle:pre[j]≤pre.getD (pre.length-1) 0:=by
      have:=le_at (L:=pre) (hp.1.imp (fun h=>Int.le_of_lt h)) (i:=j) (j:=pre.length-1) (by omega) (by omega)
      rwa [Gm hj] at this
     omega
    ·rcases List.mem_append.mp hy with h|h
     ·exact hp.2 y h
     ·simp at h; subst h; omega
  ·have c3:=of_decide_eq_false c3
   have h0:pre = []:=List.eq_nil_of_length_eq_zero (by omega)
   subst h0
   exact good ⟨by simp [Asc],fun y hy=>by simp at hy; subst hy; omega⟩
theorem Abu {c:List Ab} {b:Bool} (e:Mo t c=some b) (hb:b=true↔FitsS t c) (n:Int) (ho:on.length≤9223372036854775807):Ok (Ju t c on n) (fun b=>b=true↔Acl t c on n):=by
 unfold Ju Nw
 rw [e,Option.bind_some]
 refine Ok.ite (fun h1 => ?_) fun h1=>Ok.ret ?_
 ·have hf:=hb.mp h1
  refine Ok.bind (AgF on n ho) fun r hr=>Ok.ite (fun h2=>Ok.ret ?_) fun h2=>Ok.ret ?_
  ·have hv:=hr.mp h2
   rw [decide_eq_true_eq]
   exact ⟨fun h=>⟨hf,by omega,hv⟩,fun h=>by have:=h.pos; omega⟩
  ·refine ⟨fun h=>by simp at h,fun h => ?_⟩
   rw [hr.mpr h.set] at h2
   simp at h2
 ·refine ⟨fun h=>by simp at h,fun h => ?_⟩
  rw [hb.mpr h.fits] at h1
  simp at h1
theorem Agi {s:At} (h:s.weight=0):Pa s=some false:=by
 have e:Di s.weight 1 10000=some false:=by rw [h]; rfl
 have key:∀ y,Kh s y=some false:=by
  intro y
  unfold Kh Bc 
  cases c1:(s.pidsMax==4611686018427387904) with
  | true=>simp only [e,Option.bind_some,if_true]; simp
  | false =>
   unfold Di at *
   simp only [e,Option.bind_some,Bool.false_eq_true,if_false]
   split <;> rfl
 unfold Pa
 split <;> exact key _
def mkP (t:Ae) (l:List Ab) (on:List Int) (x:Int):place := { group:=x,cpus:=Ll t l on x,alone:=Ej t l on x }
theorem has_len (w:WfT t) {G:List Int} (hn:G.Nodup) (h:∀ x∈G,El t x=true):G.length≤t.nodes.length:=by
 have:=Qv (m:=t.nodes.map (·.id)) hn fun x hx=>by
  obtain ⟨n,hn,e⟩:=hasN_iff.mp (h x hx)
  exact List.mem_map.mpr ⟨n,hn,e⟩
 simpa using this
theorem AjH {g x:Int} (h:Bl t g x=true):El t x=true:=by
 obtain ⟨n,hn,e⟩:=Ni (below_iff.mp h)
 exact hasN_iff.mpr ⟨n,hn,e⟩
theorem Agx {A B:List Int} (h:Asc A) (ha:A.length≤1000) (hb:B.length≤9223372036854775807):Kx A B=some (A.all (fun x=>B.contains x)):=by
 unfold Kx
 rw [Adc h ha hb,Option.bind_some]
 congr 1
 rw [Bool.eq_iff_iff,beq_iff_eq,List.all_eq_true]
 unfold Lf
 constructor
 ·intro h0 x hx
  have h1:A.filter (fun x => !B.contains x) = []:=List.eq_nil_of_length_eq_zero (by omega)
  have:=List.filter_eq_nil_iff.mp h1 x hx
  simpa using this
 ·intro h0
  have h1:A.filter (fun x => !B.contains x) = []:=List.filter_eq_nil_iff.mpr fun x hx=>by rw [h0 x hx]; simp
  rw [h1]
  rfl
theorem share_t (u:UseS t l on) (hs:∀ x∈l,Cz x.settings):∀ (n:Nat) (g:Int) (G0:List Int),(t.next-g).toNat<n→El t g=true→G0.Nodup→(∀ x∈G0,El t x=true∧Bl t g x=false) →
  Ok (Hx n t l (G0.map (mkP t l on)) g (Cd t l on g) (Ej t l on g)) (fun r=>∃ G,r=(G0++G).map (mkP t l on)∧(G0++G).Nodup∧∀ x,x∈G↔Bl t g x=true):=by
 have w:=u.w
 have hn:=w.len2
 have hlen:=u.fits.len
 intro n
 induction n with
 | zero=>intro g G0 h; omega
 | succ n ih =>
  intro g G0 hm hg hnd0 hG0
  obtain ⟨a1,a2,a3,a4⟩:=AdT u hg
  unfold Hx Tf
  rw [AbC w,hg,if_pos rfl,Option.bind_some]
  have hk:=AaB t g
  refine Ok.guard (by omega) ?_
  refine Ok.range (fun pre s=>s=((Bn l (Du t l on g) pre (Cd t l on g)).2,(Bn l (Du t l on g) pre (Cd t l on g)).1)) rfl ?_ ?_
  ·intro pre x post s m he hI hm2
   subst hI
   obtain ⟨q1,q2,q3⟩:=Lz (l:=l) (al:=Du t l on g) pre (Cd t l on g)
   have hlen16:(Bn l (Du t l on g) pre (Cd t l on g)).1.length≤16:=by
    have:=Qv (Yy (q3 a1)) q1
    omega
   have hpl:(Bn l (Du t l on g) pre (Cd t l on g)).2.length≤pre.length:=by
    have:∀ (ks left:List Int),(Bn l (Du t l on g) ks left).2.length≤ks.length:=by
     intro ks
     induction ks with
     | nil=>intro left; simp [Bn]
     | cons c r ihk =>
      intro left
      rw [Bn]
      split
      ·have:=ihk (Lf left (cfg l c).cpus)
       simp only [List.length_cons]
       omega
      ·have:=ihk left
       simp only [List.length_cons]
       omega
    exact this _ _
   have hpre:pre.length≤(Bi t g).length:=by rw [he]; simp
   have hcs:=(u.fits.cfg x).small
   have hW:Kx (cfg l x).cpus (Bn l (Du t l on g) pre (Cd t l on g)).1=some ((cfg l x).cpus.all (fun y=>(Bn l (Du t l on g) pre (Cd t l on g)).1.contains y)):=Agx hcs.2.2.1 (by omega) (by omega)
   unfold Zq
   rw [Wh (by omega) hs,Option.bind_some]
   simp only [hW,Option.bind_some]
   have hno:¬ Uu (Du t l on g) (Bn l (Du t l on g) pre (Cd t l on g)).1 (cfg l x)=true→Ok (Dq x ((Bn l (Du t l on g) pre (Cd t l on g)).2,(Bn l (Du t l on g) pre (Cd t l on g)).1) m (cfg l x) false) (fun r=>∃ G,r=(G0++G).map (mkP t l on)∧(G0++G).Nodup∧∀ x,x∈G↔Bl t g x=true):=by
    intro hc
    unfold Dq Mz
    rw [if_neg (by simp)]
    refine hm2 _ ?_
    rw [Vp,if_neg hc]
   have hyes:Uu (Du t l on g) (Bn l (Du t l on g) pre (Cd t l on g)).1 (cfg l x)=true→Ok (Dq x ((Bn l (Du t l on g) pre (Cd t l on g)).2,(Bn l (Du t l on g) pre (Cd t l on g)).1) m (cfg l x) true) (fun r=>∃ G,r=(G0++G).map (mkP t l on)∧(G0++G).Nodup∧∀ x,x∈G↔Bl t g x=true):=by
    intro hc
    unfold Dq Mz
    rw [if_pos rfl,Adc (q3 a1) (by omega) (by omega),Option.bind_some]
    refine Ok.guard (by simp only; omega) (hm2 _ ?_)
    rw [Vp,if_pos hc]
   have both:(Du t l on g)=true→Ok (if (decide ((((cfg l x).cpus.length:Nat):Int)>0)) then (if ((cfg l x).cpus.all (fun y=>(Bn l (Du t l on g) pre (Cd t l on g)).1.contains y)) then ((Dq x ((Bn l (Du t l on g) pre (Cd t l on g)).2,(Bn l (Du t l on g) pre (Cd t l on g)).1) m (cfg l x)) (decide ((((Bn l (Du t l on g) pre (Cd t l on g)).1.length:Nat):Int)>(((cfg l x).cpus.length:Nat):Int)))) else ((Dq x ((Bn l (Du t l on g) pre (Cd t l on g)).2,(Bn l (Du t l on g) pre (Cd t l on g)).1) m (cfg l x)) false)) else ((Dq x ((Bn l (Du t l on g) pre (Cd t l on g)).2,(Bn l (Du t l on g) pre (Cd t l on g)).1) m (cfg l x)) false)) (fun r=>∃ G,r=(G0++G).map (mkP t l on)∧(G0++G).Nodup∧∀ x,x∈G↔Bl t g x=true)∨¬ (cfg l x).partition=1:=by
    intro hal
    by_cases c1:(cfg l x).partition=1
    ·left
     by_cases c3:0<(cfg l x).cpus.length
     ·rw [if_pos (by simpa using c3)]
      by_cases c4:(cfg l x).cpus.all (fun y=>(Bn l (Du t l on g) pre (Cd t l on g)).1.contains y)=true
      ·rw [if_pos c4]
       by_cases c5:(cfg l x).cpus.length<(Bn l (Du t l on g) pre (Cd t l on g)).1.length
       ·rw [decide_eq_true (by omega)]
        exact hyes (cond_iff.mpr ⟨c1,hal,c3,by simpa using c4,c5⟩)
       ·rw [decide_eq_false (by omega)]
        exact hno fun h=>c5 (cond_iff.mp h).2.2.2.2
      ·rw [if_neg c4]
       exact hno fun h=>c4 (by simpa using (cond_iff.mp h).2.2.2.1)
     ·rw [if_neg (by simpa using c3)]
      exact hno fun h=>c3 (cond_iff.mp h).2.2.1
    ·exact .inr c1
   refine Ok.ite (fun c1 => ?_) fun c1=>hno fun h=>by
    have:=(cond_iff.mp h).1
    rw [this] at c1
    simp at c1
   have c1:(cfg l x).partition=1:=by simpa using c1
   refine Ok.ite (fun c2 => ?_) fun c2=>Ok.ite (fun c2' => ?_) fun c2'=>hno fun h => ?_
   ·exact (both (by simp [Du,c2])).resolve_right (fun h=>h c1)
   ·exact (both (by simp [Du,c2'])).resolve_right (fun h=>h c1)
   ·have:=(cond_iff.mp h).2.1
    simp only [Du,c2,c2',Bool.or_self] at this
    simp at this
  ·intro s hI
   subst hI
   unfold Ra
   have hl0:=has_len w hnd0 fun x hx=>(hG0 x hx).1
   refine Ok.guard (by rw [List.length_map]; omega) (Ok.guard (by omega) ?_)
   have hgG:g∉G0:=fun h=>by
    have:=(hG0 g h).2
    rw [Tp w hg] at this
    simp at this
   refine Ok.range (fun pre r=>∃ G,r=(G0++g::G).map (mkP t l on)∧(G0++g::G).Nodup∧∀ x,x∈G↔∃ c∈pre,Bl t c x=true) ?_ ?_ ?_
   ·refine ⟨[],?_,?_,by simp⟩
    ·rw [List.map_append]
     rfl
    ·rw [List.nodup_append]
     exact ⟨hnd0,by simp,fun a ha b hb=>by simp at hb; subst hb; exact fun e=>hgG (e▸ha)⟩
   ·rintro pre c post s m he ⟨G,rfl,hnd,hmem⟩ hm2
    have hck:c∈Bi t g:=by rw [he]; simp
    obtain ⟨e1,e2,e3⟩:=Xc w hck
    obtain ⟨k1,k2⟩:=Vm (l:=l) (on:=on) w hg hck
    have hkn:(pre++c::post).Nodup:=by rw [← he]; exact Zw w g
    have hcpre:c∉pre:=fun h=>by
     rw [List.nodup_append] at hkn
     exact hkn.2.2 c h c (by simp) rfl
    have hcl:c<t.next:=by
     obtain ⟨z,hz,hze⟩:=hasN_iff.mp e2
     have:=w.next z hz
     omega
    have step:=ih c (G0++g::G) (by omega) e2 hnd fun y hy=>by
     rcases List.mem_append.mp hy with h|h
     ·refine ⟨(hG0 y h).1,?_⟩
      cases hq:Bl t c y with
      | false=>rfl
      | true =>
       have:=(Qg w hg hck hq).1
       rw [(hG0 y h).2] at this
       simp at this
     ·rcases List.mem_cons.mp h with rfl|h
      ·refine ⟨hg,?_⟩
       cases hq:Bl t c y with
       | false=>rfl
       | true=>exact absurd rfl (Qg w hg hck hq).2
      ·obtain ⟨d,hd,hdy⟩:=(hmem y).mp h
       refine ⟨AjH hdy,?_⟩
       cases hq:Bl t c y with
       | false=>rfl
       | true =>
        have hdk:d∈Bi t g:=by rw [he]; simp [hd]
        have:=AbB w hck hdk hq hdy
        exact absurd (this▸hd) hcpre
    have fin:∀ r,(∃ G',r=((G0++g::G)++G').map (mkP t l on)∧((G0++g::G)++G').Nodup∧∀ x,x∈G'↔Bl t c x=true)→Ok (Nh m r) (fun r=>∃ G,r=(G0++G).map (mkP t l on)∧(G0++G).Nodup∧∀ x,x∈G↔Bl t g x=true):=by
     rintro r ⟨G',rfl,hnd',hm'⟩
     unfold Nh
     rw [List.append_assoc,List.cons_append] at *
     refine hm2 _ ⟨G++G',rfl,hnd',fun x => ?_⟩
     rw [List.mem_append,hmem,hm']
     constructor
     ·rintro (⟨d,hd,h⟩|h)
      ·exact ⟨d,by simp [hd],h⟩
      ·exact ⟨c,by simp,h⟩
     ·rintro ⟨d,hd,h⟩
      rcases List.mem_append.mp hd with hd|hd
      ·exact .inl ⟨d,hd,h⟩
      ·simp only [List.mem_singleton] at hd
       subst hd
       exact .inr h
    unfold Zn
    have hp:(Ip t l on g).length≤1000000:=by
     have:=Qv (l:=Ip t l on g) (m:=Bi t g) ?_ fun x hx=>(Lz (l:=l) (al:=Du t l on g) (Bi t g) (Cd t l on g)).2.1 x hx
     ·omega
     ·have:∀ (ks left:List Int),ks.Nodup→(Bn l (Du t l on g) ks left).2.Nodup:=by
       intro ks
       induction ks with
       | nil=>intro left _; simp [Bn]
       | cons d r ihk =>
        intro left hnk
        rw [List.nodup_cons] at hnk
        rw [Bn]
        split
        ·refine List.nodup_cons.mpr ⟨fun h=>hnk.1 ((Lz (l:=l) (al:=Du t l on g) r _).2.1 d h),ihk _ hnk.2⟩
        ·exact ihk _ hnk.2
      exact this _ _ (Zw w g)
    rw [Wh (by omega) hs,Option.bind_some]
    refine Ok.step (a:=(Ip t l on g).contains c) (AbX (Ip t l on g) c hp) ?_
    refine Ok.ite (fun c1 => ?_) fun c1 => ?_
    ·rw [c1] at k1
     rw [if_pos c1] at k2
     rw [k1,k2] at step
     exact Ok.bind step fun r hr=>fin r hr
    ·rw [c1] at k1
     rw [c1,if_neg (by simp)] at k2
     have hcs:=(u.fits.cfg c).small
     obtain ⟨o1,o2,o3,o4⟩:=Xp u hg
     change Ok (Option.bind (Jm (cfg l c).cpus (Ll t l on g)) _) _
     rw [Zu hcs.2.2.1 (by omega) (by omega),Option.bind_some]
     have fin2:∀ y,y=Cd t l on c→Ok (Ng (Hx n) t l c ((G0++g::G).map (mkP t l on)) m y) (fun r=>∃ G,r=(G0++G).map (mkP t l on)∧(G0++G).Nodup∧∀ x,x∈G↔Bl t g x=true):=by
      rintro y rfl
      unfold Ng
      rw [k1] at step
      exact Ok.bind step fun r hr=>fin r hr
     unfold Lk at k2
     refine Ok.ite (fun c2 => ?_) fun c2 => ?_
     ·have c2:(Re (cfg l c).cpus (Ll t l on g)).length=0:=by
       have:=beq_iff_eq.mp c2
       omega
      rw [if_neg (by omega)] at k2
      exact fin2 _ k2.symm
     ·have c2:¬ (Re (cfg l c).cpus (Ll t l on g)).length=0:=by
       intro h
       rw [h] at c2
       simp at c2
      rw [if_pos (by omega)] at k2
      exact fin2 _ k2.symm
   ·rintro s ⟨G,rfl,hnd,hmem⟩
    unfold Zr
    refine Ok.ret ⟨g::G,rfl,hnd,fun x => ?_⟩
    rw [List.mem_cons,hmem,Yd w hg]
end Go.Dm

/- Plain theory of processor sets, part 11: the document's answers. -/
namespace Go.Dm
set_option linter.unusedVariables false
set_option linter.unusedSimpArgs false
variable {t : Ae} {l:List Ab} {on:List Int}
theorem nilArg_eq (t:Ae) (l:List Ab) (g:Int) (s:List Int) (al:Bool):Mf t l g s al=Hx (Fh+1) t l [] g s al:=by
 unfold Hx Mf Tf
 have e:Nv t l g al=Ra (Hx Fh) t l [] g al:=by
  funext r s
  unfold Nv Ra
  rw [if_pos (show ([]:List place).length+1≤1073741824 by simp)]
  rfl
 rw [e]
 rfl
theorem AgX (u:UseS t l on) (hs:∀ x∈l,Cz x.settings):Ju t l on 16=some true:=by
 have h16:=Za u.set (fun x h=>h) u.set.1
 obtain ⟨b,h1,h2⟩:=Abu (on:=on) (AaQ u.fits hs) (by simp [u.fits]) 16 (by omega)
 rw [h1,h2.mpr (UseS.iff.mpr u)]
theorem AhQ (u:UseS t l on) (hs:∀ x∈l,Cz x.settings):∃ G:List Int,Lc t l on=some (G.map (mkP t l on))∧G.Nodup∧(∀ x,x∈G↔El t x=true)∧G.length≤t.nodes.length:=by
 have w:=u.w
 have hn:=w.len2
 have hnx:=w.nextLe
 have hr:=Aah (l:=l) (on:=on) w
 obtain ⟨r,h1,G,rfl,h3,h4⟩:=share_t u hs (Fh+1) 1 [] (by rw [Fa]; omega) (AhZ w) List.nodup_nil (by simp)
 rw [hr.1,hr.2,List.map_nil] at h1
 unfold Lc
 rw [AgX u hs,Option.bind_some,if_neg (by simp),nilArg_eq,h1,Option.bind_some]
 have h5:∀ x,x∈G↔El t x=true:=fun x=>by rw [h4 x,AcT w]
 exact ⟨G,rfl,by simpa using h3,h5,has_len w (by simpa using h3) fun x hx=>(h5 x).mp hx⟩
theorem Aem (u:UseS t l on) (hs:∀ x∈l,Cz x.settings) (g:Int):Jw t l on g=some (if El t g then Ll t l on g else []):=by
 obtain ⟨G,e,hnd,hm,hl⟩:=AhQ u hs
 have hn:=u.w.len2
 unfold Jw
 rw [e,Option.bind_some,if_pos (by rw [List.length_map]; omega)]
 apply Ok.eq
 refine Ok.range (fun pre _=>∀ p∈pre,p.group≠g) (by simp) ?_ ?_
 ·intro pre x post s n he hi hn
  have hx:x∈G.map (mkP t l on):=by rw [he]; simp
  obtain ⟨y,hy,rfl⟩:=List.mem_map.mp hx
  have hh:=(hm y).mp hy
  unfold Wy
  refine Ok.ite (fun c => ?_) fun c=>hn () fun p hp => ?_
  ·have c:y=g:=beq_iff_eq.mp c
   subst c
   have:=(Xp u hh).2.2.2
   refine Ok.guard (by show (Ll t l on y).length≤_; omega) (Ok.ret ?_)
   rw [if_pos hh]
   rfl
  ·rcases List.mem_append.mp hp with h|h
   ·exact hi p h
   ·simp only [List.mem_singleton] at h
    subst h
    simpa using c
 ·intro s hi
  refine Ok.of_eq rfl ?_
  rw [if_neg]
  intro h
  exact hi (mkP t l on g) (List.mem_map.mpr ⟨g,(hm g).mpr h,rfl⟩) rfl
theorem Ajc (u:UseS t l on) (hs:∀ x∈l,Cz x.settings):Qh t l on=some (t.nodes.map (fun x=>Ll t l on x.id)):=by
 have hn:=u.w.len2
 unfold Qh
 rw [AgX u hs,Option.bind_some,if_neg (by simp),if_pos (by omega)]
 apply Ok.eq
 refine Ok.range (fun pre s=>s=pre.map (fun x=>Ll t l on x.id)) rfl ?_ ?_
 ·intro pre x post s n he hi hm
  have hx:x∈t.nodes:=by rw [he]; simp
  have hpl:pre.length<t.nodes.length:=by rw [he]; simp
  have hh:El t x.id=true:=hasN_iff.mpr ⟨x,hx,rfl⟩
  unfold AbV
  rw [Aem u hs,if_pos hh,Option.bind_some]
  refine Ok.guard (by rw [hi]; simp; omega) (hm _ (by rw [hi]; simp))
 ·intro s hi
  exact Ok.of_eq rfl hi
theorem Yz (u:UseS t l on) (hs:∀ x∈l,Cz x.settings):Gc t l on=some (Lh t l on):=by
 obtain ⟨G,e,hnd,hm,hl⟩:=AhQ u hs
 have w:=u.w
 have hn:=w.len2
 unfold Gc
 rw [e,Option.bind_some,if_pos (by rw [List.length_map]; omega)]
 rw [Lx (p:=fun x:place=>x.alone) (f:=fun x=>x.group) (r:=Ln) (fun k x s n hs=>by
  unfold So Lm
  rw [if_pos hs]) (fun _=>rfl) (by rw [List.length_map]; simp; omega)]
 unfold Ln
 rw [List.nil_append]
 have hfl:=List.length_filter_le (fun x:place=>x.alone) (G.map (mkP t l on))
 rw [List.length_map] at hfl
 obtain ⟨r,r1,r2,r3,r4⟩:=Ace (l:=((G.map (mkP t l on)).filter (fun x=>x.alone)).map (fun x=>x.group)) (by rw [List.length_map]; omega)
 rw [r1,Option.bind_some]
 congr 1
 refine Acf r2 (Aan w) fun x => ?_
 rw [r3,AfO]
 simp only [List.mem_map,List.mem_filter]
 have hroot:=(Aah (l:=l) (on:=on) w).2
 constructor
 ·rintro ⟨p,⟨⟨y,hy,rfl⟩,hp⟩,rfl⟩
  refine ⟨(hm y).mp hy,?_,hp⟩
  rintro h
  have hy1:y=1:=h
  subst hy1
  have hp:Ej t l on 1=true:=hp
  rw [hroot] at hp
  simp at hp
 ·rintro ⟨h1,h2,h3⟩
  exact ⟨mkP t l on x,⟨⟨x,(hm x).mpr h1,rfl⟩,h3⟩,rfl⟩
theorem AeM (u:UseS t l on) (hs:∀ x∈l,Cz x.settings) (g:Int):Ix t l on g=some ((Lh t l on).contains g):=by
 have hn:=u.w.len2
 have hal:=Aab (t:=t) (l:=l) (on:=on)
 unfold Ix
 rw [Yz u hs,Option.bind_some,AbX _ _ (by omega),Option.bind_some]
theorem readyM_t (u:UseM t l on) (hs:∀ x∈l,Cz x.settings):Ju t l on 8=some true:=by
 have h8:=u.set.len (by omega)
 obtain ⟨b,h1,h2⟩:=Abu (on:=on) (AaQ u.fits hs) (by simp [u.fits]) 8 (by omega)
 rw [h1,h2.mpr ⟨u.fits,u.pos,u.set⟩]
theorem Adt : ∀ (L:List Int) (i:Nat),i<L.length→Ol l on (L.drop i)=if i+1<L.length then Lk (cfg l (L.getD i 0)).mems (Ol l on (L.drop (i+1))) else on
 | [],i,h=>by simp at h
 | [a],i,h=>by
  have:i=0:=by simpa using h
  subst this
  simp [Ol]
 | a::b::r,0,h=>by simp [Ol]
 | a::b::r,i+1,h=>by
  have:=Adt (b::r) i (by simpa using h)
  simpa using this
theorem Aii (u:UseM t l on) (hs:∀ x∈l,Cz x.settings) (g:Int):Oa t l on g=some (if El t g then memsC t l on g else []):=by
 have w:=u.fits.wf
 have hl:=u.fits.len
 have hn:=w.len2
 have h8:=u.set.len (by omega)
 unfold Oa
 rw [Va w,ancN_up,Option.bind_some,readyM_t u hs,Option.bind_some,if_neg (by simp)]
 unfold Po
 by_cases hg:El t g=true
 ·obtain ⟨r,er⟩:=Aaq w hg
  have hul:(upT t g).length≤1000:=by
   have:=Ww t.nodes.reverse g
   rw [List.length_reverse] at this
   unfold upT
   omega
  have hp:0<(upT t g).length:=by rw [er]; simp
  rw [if_pos hg,if_neg (by simp; rw [er]; simp),if_pos (by omega)]
  apply Ok.eq
  have e0:Ol l on ((upT t g).drop ((upT t g).length-1))=on:=by
   rw [Adt _ _ (by omega),if_neg (by omega)]
  refine Ok.while (fun q=>∃ i:Nat,i<(upT t g).length∧q=(Ol l on ((upT t g).drop i),(i:Int)-1)) (fun q=>Int.toNat (q.2+1)) ⟨(upT t g).length-1,by omega,?_⟩ ?_ ?_
  ·rw [e0,Bb (by omega) (by omega)]
   congr 1
   omega
  ·rw [Bb (by omega) (by omega),Fa]
   simp only
   omega
  ·rintro q m ⟨i,hi,rfl⟩ hm
   unfold AaY
   simp only
   refine Ok.ite (fun c => ?_) fun c => ?_
   ·have c:=of_decide_eq_true c
    have hi1:Int.toNat ((i:Int)-1)=i-1:=by omega
    refine Ok.guard (by omega) (Ok.guard (by omega) ?_)
    rw [Wh (by omega) hs,Option.bind_some,hi1]
    have hcs:=(u.fits.cfg ((upT t g).getD (i-1) 0)).small
    have hml:=Afz u ((upT t g).drop i)
    rw [Zu hcs.2.2.2 (by omega) (by omega),Option.bind_some]
    have hd:Ol l on ((upT t g).drop (i-1))=Lk (cfg l ((upT t g).getD (i-1) 0)).mems (Ol l on ((upT t g).drop i)):=by
     rw [Adt _ _ (by omega),if_pos (by omega),show i-1+1=i by omega]
    have fin:∀ y,y=Ol l on ((upT t g).drop (i-1))→Ok (Qa (Ol l on ((upT t g).drop i),(i:Int)-1) m y) (· = memsC t l on g):=by
     rintro y rfl
     unfold Qa
     refine hm _ ⟨i-1,by omega,?_⟩ ?_
     ·simp only
      rw [Bb (by omega) (by omega)]
      congr 1
      omega
     ·simp only
      rw [Bb (by omega) (by omega)]
      omega
    unfold Lk at hd
    refine Ok.ite (fun c2 => ?_) fun c2 => ?_
    ·have c2:=of_decide_eq_true c2
     rw [if_pos (by omega)] at hd
     exact fin _ hd.symm
    ·have c2:=of_decide_eq_false c2
     rw [if_neg (by omega)] at hd
     exact fin _ hd.symm
   ·have c:=of_decide_eq_false c
    have:i=0:=by omega
    subst this
    exact Ok.ret rfl
 ·have e:upT t g = []:=by
   cases hu:upT t g with
   | nil=>rfl
   | cons a r =>
    obtain ⟨n,hn,he⟩:=Ni (t:=t) (x:=g) (k:=a) (by rw [hu]; simp)
    exact absurd (hasN_iff.mpr ⟨n,hn,he⟩) hg
  rw [if_neg hg,e]
  rfl
theorem none_prog {c:List Ab} (h:¬ Acl t c on 16) (e:Hz t c on 16=some false):Ob t c on=some []∧Fp t c on=some []∧∀ g,Ev t c on g=some []∧Ff t c on g=some false:=by
 have e2:Fp t c on=some []:=by
  unfold Fp
  rw [e,Option.bind_some,if_pos (by simp)]
 refine ⟨?_,e2,fun g=>⟨?_,?_⟩⟩
 ·unfold Ob
  rw [e,Option.bind_some,if_pos (by simp)]
 ·unfold Ev
  rw [e,Option.bind_some,if_pos (by simp)]
 ·unfold Ff
  rw [e2,Option.bind_some,Zp _ _ (by simp),Option.bind_some]
  rfl
theorem none_ref {c:List Ab} (e:Ju t c on 16=some false):Qh t c on=some []∧Gc t c on=some []∧∀ g,Jw t c on g=some []∧Ix t c on g=some false:=by
 have e1:Lc t c on=some []:=by
  unfold Lc
  rw [e,Option.bind_some,if_pos (by simp)]
 have e2:Gc t c on=some []:=by
  unfold Gc
  rw [e1,Option.bind_some,if_pos (by simp)]
  unfold Bo Ln
  rw [Wv (l := []) (by simp) List.Pairwise.nil,Option.bind_some]
 refine ⟨?_,e2,fun g=>⟨?_,?_⟩⟩
 ·unfold Qh
  rw [e,Option.bind_some,if_pos (by simp)]
 ·unfold Jw
  rw [e1,Option.bind_some,if_pos (by simp)]
  rfl
 ·unfold Ix
  rw [e2,Option.bind_some,AbX _ _ (by simp),Option.bind_some]
  rfl
end Go.Dm

/- The law CpusetAll, on the model. -/
namespace Go.Dm
set_option linter.unusedVariables false
set_option linter.unusedSimpArgs false
variable {t : Ae} {l c:List Ab} {on:List Int}
structure AlikeC (t:Ae) (c:List Ab) (on:List Int):Prop where
 all:∃ A,Ob t c on=some A∧Qh t c on=some A∧A.length≤1000∧∀ a∈A,a.length≤1000
 parts:∃ P,Fp t c on=some P∧Gc t c on=some P∧P.length≤1000
 cpus:∀ g,∃ K,Ev t c on g=some K∧Jw t c on g=some K∧K.length≤1000
 mems:∀ g,∃ K,Mv t c on g=some K∧Oa t c on g=some K∧K.length≤1000
 excl:∀ g,∃ b,Ff t c on g=some b∧Ix t c on g=some b
theorem AiF (w:WfT t) (hl:c.length≤1000) (hs:∀ x∈c,Cz x.settings) (ho:on.length≤1000) {b:Bool} (e:Mo t c=some b) (hb:b=true↔FitsS t c):AlikeC t c on:=by
 have hn:=w.len2
 have hM:∀ g,∃ K,Mv t c on g=some K∧Oa t c on g=some K∧K.length≤1000:=by
  intro g
  by_cases u:Acl t c on 8
  ·have u':UseM t c on:=⟨u.fits,u.pos,u.set⟩
   refine ⟨_,Mems_t u' hs g,Aii u' hs g,?_⟩
   split
   ·have:=Afz u' (upT t g)
    unfold memsC
    omega
   ·simp
  ·obtain ⟨b1,e1,e2⟩:=Aao (t:=t) (l:=c) (on:=on) (n:=8) w.p.names (by omega) (by omega) hs (by omega)
   obtain ⟨b2,e3,e4⟩:=Abu (on:=on) e hb 8 (by omega)
   have f1:b1=false:=by cases b1 with|false=>rfl|true=>exact absurd (e2.mp rfl) u
   have f2:b2=false:=by cases b2 with|false=>rfl|true=>exact absurd (e4.mp rfl) u
   subst f1; subst f2
   refine ⟨[],?_,?_,by simp⟩
   ·unfold Mv
    rw [e1,Option.bind_some,if_pos (by simp)]
   ·unfold Oa
    rw [Va w,Option.bind_some,e3,Option.bind_some,if_pos (by simp)]
    unfold Po
    rw [if_pos rfl]
 by_cases u:Acl t c on 16
 ·have u':=UseS.iff.mp u
  have hal:=Aab (t:=t) (l:=c) (on:=on)
  refine ⟨⟨_,All_t u' hs,Ajc u' hs,by simp; omega,fun a ha => ?_⟩,⟨_,Adv u' hs,Yz u' hs,by omega⟩,fun g=>⟨_,Cpus_t u' hs g,Aem u' hs g,?_⟩,hM,fun g=>⟨_,Afd u' hs g,AeM u' hs g⟩⟩
  ·obtain ⟨x,hx,rfl⟩:=List.mem_map.mp ha
   have:=(Xp u' (hasN_iff.mpr ⟨x,hx,rfl⟩)).2.2.2
   omega
  ·split
   ·rename_i hg
    have:=(Xp u' hg).2.2.2
    omega
   ·simp
 ·obtain ⟨b1,e1,e2⟩:=Aao (t:=t) (l:=c) (on:=on) (n:=16) w.p.names (by omega) (by omega) hs (by omega)
  obtain ⟨b2,e3,e4⟩:=Abu (on:=on) e hb 16 (by omega)
  have f1:b1=false:=by cases b1 with|false=>rfl|true=>exact absurd (e2.mp rfl) u
  have f2:b2=false:=by cases b2 with|false=>rfl|true=>exact absurd (e4.mp rfl) u
  subst f1; subst f2
  obtain ⟨p1,p2,p3⟩:=none_prog u e1
  obtain ⟨r1,r2,r3⟩:=none_ref e3
  exact ⟨⟨[],p1,r1,by simp,by simp⟩,⟨[],p2,r2,by simp⟩,fun g=>⟨[],(p3 g).1,(r3 g).1,by simp⟩,hM,fun g=>⟨false,(p3 g).2,(r3 g).2⟩⟩
theorem round_ok {p2:Int} {r6:Ae×Ak} (w:WfT r6.1) (a:AlikeC r6.1 c on) {k:Nat} {s:Ak} (hd:Ct s) {n:Ak→Option Bool} (hn:∀ s',Ct s'→Ok (n s') (· = true)):Ok (Od p2 r6 c k on s n) (· = true):=by
 have hlen:=w.len2
 obtain ⟨A,a1,a2,a3,a4⟩:=a.all
 obtain ⟨P,b1,b2,b3⟩:=a.parts
 unfold Od
 rw [a1,Option.bind_some,a2,Option.bind_some,if_neg (by simp),b1,Option.bind_some,b2,Option.bind_some,Tk _ (by omega),Option.bind_some]
 unfold Ld
 rw [if_neg (by simp)]
 refine Ok.guard (by omega) ?_
 refine Ok.range (fun _ _=>True) trivial ?_ ?_
 ·intro pre x post s n2 he _ hm
  have hx:x∈A:=by rw [he]; simp
  have hk:pre.length<A.length:=by rw [he]; simp
  have hat:A.getD pre.length []=x:=by rw [he]; exact Vf
  unfold Te
  refine Ok.guard hk (Ok.guard hk ?_)
  rw [hat,Tk _ (by have:=a4 x hx; omega),Option.bind_some,if_neg (by simp)]
  exact hm () trivial
 ·intro s' _
  unfold Sl
  refine Ok.bind (Aib hd _ (by omega)) fun r1 h1=>Ok.bind (Aib h1 _ (by omega)) fun r2 h2 => ?_
  refine Ok.guard (by simp) ?_
  refine Ok.range (fun _ _=>True) trivial ?_ ?_
  ·intro pre x post s n2 _ _ hm
   obtain ⟨K,k1,k2,k3⟩:=a.cpus x
   obtain ⟨M,m1,m2,m3⟩:=a.mems x
   obtain ⟨b,q1,q2⟩:=a.excl x
   unfold Sz
   rw [k1,Option.bind_some,k2,Option.bind_some,Tk _ (by omega),Option.bind_some,if_neg (by simp),m1,Option.bind_some,m2,Option.bind_some,Tk _ (by omega),Option.bind_some,if_neg (by simp),q1,Option.bind_some,q2,Option.bind_some]
   unfold Jj
   rw [if_neg (by cases b <;> simp)]
   exact hm () trivial
  ·intro s _
   unfold Sv
   exact hn _ h2
theorem bad_fits (f:FitsS t l) (hs:∀ x∈l,Cz x.settings) {i:Nat} (hi:i<l.length) {x:Ab} (hg:x.group=(l.getD i default).group) (hw:x.settings.weight=0):Mo t (l.set i x)=some false∧¬ FitsS t (l.set i x):=by
 have w:=f.wf
 have hn:=w.len2
 have hl:=f.len
 constructor
 ·unfold Mo Pn
  rw [Pq w,Option.bind_some,if_neg (by simp),if_neg (by rw [List.length_set,hl]; simp),if_pos (by rw [List.length_set]; omega)]
  apply Ok.eq
  refine Ok.range (fun pre _=>pre.length≤i) (by simp) ?_ ?_
  ·intro pre y post s n he hpi hm
   have hpl:pre.length<t.nodes.length:=by
    have:=congrArg List.length he
    simp at this
    omega
   have hat:(l.set i x).getD pre.length default=y:=by rw [he]; exact Vf
   unfold Vz
   refine Ok.guard hpl ?_
   by_cases e:pre.length=i
   ·have hy:y=x:=by
     rw [← hat,e,List.getD_eq_getElem?_getD,List.getElem?_set_self hi]
     rfl
    subst hy
    unfold Nr
    refine Ok.ite (fun _=>by rw [if_pos rfl]; exact Ok.ret rfl) fun _ => ?_
    rw [Agi hw,Option.bind_some,if_pos (by simp)]
    exact Ok.ret rfl
   ·have hy:y=l.getD pre.length default:=by
     rw [← hat,List.getD_eq_getElem?_getD,List.getElem?_set_ne (by omega),List.getD_eq_getElem?_getD]
    have hyl:y∈l:=by rw [hy]; exact Oy (by omega)
    have hgy:=grp_at f hpl
    rw [← hy] at hgy
    unfold Nr
    rw [hgy,if_neg (by simp),Adj (f.chk y hyl),Option.bind_some,if_neg (by simp)]
    exact hm () (by simp; omega)
  ·intro s h
   rw [List.length_set] at h
   omega
 ·intro f'
  have:=(f'.chk x (List.mem_iff_getElem.mpr ⟨i,by simpa using hi,by simp⟩)).2.1
  omega
theorem Ail (l0 p1:List Int) (p2:Int):Ok (Oj l0 p1 p2) (· = true):=by
 have sane:∀ {f:Bool→Option Bool},f true=some true→Ok (Option.bind Ql f) (· = true):=fun h=>Ok.step Air (Ok.of_eq h rfl)
 have hsane:Ok (It l0 p1 p2 true) (· = true):=by
  unfold It
  rw [if_pos rfl]
  exact sane rfl
 unfold Oj Zy
 refine Ok.step rfl ?_
 refine Ok.ite (fun _=>hsane) fun c => ?_
 have hl:l0.length≤600:=by
  have:((l0.length:Nat):Int)≤600:=by simpa using c
  omega
 by_cases hp:p1.length>40
 ·rw [decide_eq_true (by omega)]
  exact hsane
 rw [decide_eq_false (by omega)]
 unfold It
 rw [if_neg (by simp)]
 refine Ok.step (a := { l:=l0,atF:=0 }) rfl ?_
 refine Ok.bind (Tree_ok (dice_roll hl) 8 (by omega) (by omega)) fun r6 ⟨w,hd⟩ => ?_
 have hn:=w.len2
 refine Ok.bind (Ajg hd w) fun r7 ⟨f,hs,hd⟩ => ?_
 have hL:=f.len
 have hpos:0<r6.1.nodes.length:=by
  obtain ⟨x,r,e,_⟩:=w.root
  rw [e]; simp
 refine Ok.guard (by omega) ?_
 refine Ok.bind (Hh hd _ (by omega) (by omega)) fun r9 ⟨hd,h1,h2⟩ => ?_
 have hi:Int.toNat r9.1<r7.1.length:=by omega
 refine Ok.guard ⟨h1,h2⟩ (Ok.guard hi ?_)
 generalize hb:({ group:=(r7.1.getD (Int.toNat r9.1) (default:Ab)).group,settings:=({ pidsMax:=(r7.1.getD (Int.toNat r9.1) (default:Ab)).settings.pidsMax,weight:=0,quota:=(r7.1.getD (Int.toNat r9.1) (default:Ab)).settings.quota,period:=(r7.1.getD (Int.toNat r9.1) (default:Ab)).settings.period,burst:=(r7.1.getD (Int.toNat r9.1) (default:Ab)).settings.burst,clampMin:=(r7.1.getD (Int.toNat r9.1) (default:Ab)).settings.clampMin,clampMax:=(r7.1.getD (Int.toNat r9.1) (default:Ab)).settings.clampMax,cpus:=(r7.1.getD (Int.toNat r9.1) (default:Ab)).settings.cpus,mems:=(r7.1.getD (Int.toNat r9.1) (default:Ab)).settings.mems,partition:=(r7.1.getD (Int.toNat r9.1) (default:Ab)).settings.partition,memory:=(r7.1.getD (Int.toNat r9.1) (default:Ab)).settings.memory,devices:=(r7.1.getD (Int.toNat r9.1) (default:Ab)).settings.devices } : At) } : Ab)=x
 have hxg:x.group=(r7.1.getD (Int.toNat r9.1) default).group:=by rw [← hb]
 have hxw:x.settings.weight=0:=by rw [← hb]
 have hxs:Cz x.settings:=by
  have:=hs _ (Oy (d:=default) hi)
  rw [← hb]
  exact ⟨this.cpus,this.mems,this.devices⟩
 obtain ⟨e1,e2⟩:=bad_fits f hs hi hxg hxw
 have hbs:∀ y∈r7.1.set (Int.toNat r9.1) x,Cz y.settings:=by
  intro y hy
  rcases List.mem_or_eq_of_mem_set hy with h|h
  ·exact hs y h
  ·subst h; exact hxs
 have key:∀ c ∈ [r7.1,r7.1.set (Int.toNat r9.1) x],∀ o:List Int,o.length≤1000→AlikeC r6.1 c o:=by
  intro c hc o ho
  simp only [List.mem_cons,List.not_mem_nil,or_false] at hc
  rcases hc with rfl|rfl
  ·exact AiF w (by omega) hs ho (AaQ f hs) (by simp [f])
  ·exact AiF w (by rw [List.length_set]; omega) hbs ho e1 (by simp [e2])
 refine Ok.guard (by simp) ?_
 refine Ok.range (fun _ s=>Ct s) hd ?_ ?_
 ·intro pre c post s n he hd hm
  have hc:c ∈ [r7.1,r7.1.set (Int.toNat r9.1) x]:=by rw [he]; simp
  unfold Uh
  refine Ok.bind (Ahc hd (n:=6) (by omega) (by omega)) fun o6 ⟨k1,k2,hd⟩ => ?_
  refine Ok.bind (Ahc hd (n:=4) (by omega) (by omega)) fun o4 ⟨k3,k4,hd⟩ => ?_
  have g6:=k1.len (by omega)
  have g4:=k3.len (by omega)
  refine Ok.guard (by simp) ?_
  refine Ok.range (fun _ s=>Ct s) hd ?_ ?_
  ·intro pre2 o post2 s n2 he2 hd hm2
   have ho:o ∈ [p1,o6.1,o4.1,[]]:=by rw [he2]; simp
   have hol:o.length≤1000:=by
    simp only [List.mem_cons,List.not_mem_nil,or_false] at ho
    rcases ho with rfl|rfl|rfl|rfl
    ·omega
    ·omega
    ·omega
    ·simp
   exact round_ok w (key c hc o hol) hd fun s' h=>hm2 s' h
  ·intro s h
   unfold Sm
   exact hm s h
 ·intro s _
  unfold Uc
  exact sane rfl
theorem Agt (l0 p1:List Int) (p2:Int) (_:∀ n∈l0,-9223372036854775808≤n∧n≤9223372036854775807) (_:∀ n∈p1,-9223372036854775808≤n∧n≤9223372036854775807) (_:IntKind.i64.min≤p2) (_:p2≤IntKind.i64.max):Oj l0 p1 p2=some true:=(Ail l0 p1 p2).eq
end Go.Dm

/- Models of Go types and functions, printed by a program. -/
namespace Go.Dm
set_option linter.unusedVariables false

end Go.Dm


/- The iterator that slices.Backward hands back. -/
namespace Go.Dm
open Go.Proofs Go.RowKit Go.Shelf
attribute [local go_sem] Oper.semAt_some

set_option maxRecDepth 100000 in
set_option maxHeartbeats 4000000 in
theorem TryzBack1 (b len:Nat) (L:List Int) (hL:L.length=len) (hlen:len<2 ^ 62) (l:Nat) (J:Nat→World→Prop) (W:World) (hJ:∀ k W1,J k W1→∃ v,W1.cell? ⟨b,0,none⟩=some v∧SlAt W1 v L)
    (hY:∀ j W1,j<len→J (len-(j+1)) W1→YieldAt Fence.wide 0 Tryz.prog l #[.int .i64 (j:Int),.int .i64 (L[j]?.getD 0)] W1 fun e W'=>e = .returned (.bool true)∧J (len-j) W') (h0:J 0 W) :
    CallsIn Fence.wide 0 Tryz.prog 67 #[.func (.yield l) #[] #[],.pointer (some ⟨b,0,none⟩)] W fun e W'=>(∃ v,e = .returned v)∧J len W':=by
  refine callsIn_of_wp Tryz.func67 rfl trivial ?_ rfl
  simp only [Tryz.ntmps67,List.size_toArray,List.length_cons,List.length_nil,Nat.reduceAdd,Nat.reduceSub,Array.replicate_succ,Array.replicate_zero,List.push_toArray,List.append_toArray,List.nil_append,List.cons_append]
  obtain ⟨v,hv,hs⟩:=hJ 0 W h0
  have hlv:∃ p c,v = .slice p len c:=by
    rcases hs with ⟨h1,h2⟩|⟨b',o,cap,h2,_,_⟩
    · exact ⟨none,0,by rw [h2,← hL,h1]; rfl⟩
    · exact ⟨_,_,by rw [h2,hL]⟩
  obtain ⟨p,c,rfl⟩:=hlv
  clear hs
  gi_wp2
  gi_loopw [3] (fun i wr=>∃ j:Nat,j≤len∧i = .int .i64 ((j:Int)-1)∧J (len-j) wr)
    (fun i _=>(intOf i+1).toNat)
  case atStart=>exact ⟨len,Nat.le_refl _,rfl,by rw [Nat.sub_self]; exact h0⟩
  case round =>
    obtain ⟨j,hj,rfl,hJs⟩:=hrel
    cases j with
    | zero =>
      gi_wp2
      go_end0
      exact ⟨⟨_,rfl⟩,hJs⟩
    | succ j =>
      obtain ⟨v,hv,hs⟩:=hJ _ _ hJs
      rcases hs with ⟨h1,_⟩|⟨b',o,cap,rfl,hcap,hc⟩
      · rw [h1] at hL; simp at hL; omega
      · have hcx:=hc j (by omega)
        rw [hL] at hv
        simp only [at_,List.getD_eq_getElem?_getD] at hcx hv
        obtain ⟨fn,tmps,assign,body,hy,hR⟩:=hY j wr (by omega) hJs
        have e:(((j+1:Nat):Int)-1)=(j:Int):=by omega
        rw [e]
        gi_wp2
        refine ⟨rfl,hR.mono ?_⟩
        rintro e W3 ⟨rfl,hJ3⟩
        gi_wp2
        go_roundw
        case rel=>exact ⟨j,by omega,by simp,hJ3⟩
        case measure=>simp [intOf]

theorem TryzBack : Afw Tryz.prog 67:=by
  refine ⟨fun args w=>enters_of Tryz.func67 (by kernel_rfl) rfl args w,fun b L hlen l J W hJ hY h0 => ?_⟩
  have hf:fen none=Fence.wide:=rfl
  rw [hf] at hY ⊢
  refine TryzBack1 b L.length L rfl hlen l J W hJ (fun j W1 hj hJ1 => ?_) h0
  have:=hY (L.length-(j+1)) W1 (by omega) hJ1
  rw [show L.length-1-(L.length-(j+1))=j by omega,show L.length-(j+1)+1=L.length-j by omega,List.getD_eq_getElem?_getD] at this
  exact this
end Go.Dm


/- Types of the program. -/
namespace Go.Dm
open Go.Proofs
set_option linter.unusedVariables false
def Tt : Ty := [(3,⟨.int .i64,1,8,[.int .i64 0],false⟩),
  (4,⟨.bool,1,1,[.bool false],false⟩),
  (5,⟨.int .u8,1,1,[.int .u8 0],false⟩),
  (9,⟨.str,1,16,[.string ByteArray.empty],false⟩),
  (22,⟨.slice 3,1,24,[.slice none 0 0],false⟩),
  (27,⟨.slice 58,1,24,[.slice none 0 0],false⟩),
  (29,⟨.struct [(0,27),(1,3)],2,32,[.slice none 0 0,.int .i64 0],false⟩),
  (31,⟨.slice 39,1,24,[.slice none 0 0],false⟩),
  (34,⟨.struct [(0,3),(1,3),(2,3),(3,3),(4,3),(5,4)],6,48,[.int .i64 0,.int .i64 0,.int .i64 0,.int .i64 0,.int .i64 0,.bool false],false⟩),
  (35,⟨.slice 123,1,24,[.slice none 0 0],false⟩),
  (37,⟨.struct [(0,3),(1,3),(2,3),(3,3),(4,3),(5,3),(6,3),(7,22),(8,22),(9,3),(10,34),(16,35)],17,184,[.int .i64 0,.int .i64 0,.int .i64 0,.int .i64 0,.int .i64 0,.int .i64 0,.int .i64 0,.slice none 0 0,.slice none 0 0,.int .i64 0,.int .i64 0,.int .i64 0,.int .i64 0,.int .i64 0,.int .i64 0,.bool false,.slice none 0 0],false⟩),
  (39,⟨.struct [(0,3),(1,37)],18,192,[.int .i64 0,.int .i64 0,.int .i64 0,.int .i64 0,.int .i64 0,.int .i64 0,.int .i64 0,.int .i64 0,.slice none 0 0,.slice none 0 0,.int .i64 0,.int .i64 0,.int .i64 0,.int .i64 0,.int .i64 0,.int .i64 0,.bool false,.slice none 0 0],false⟩),
  (41,⟨.slice 31,1,24,[.slice none 0 0],false⟩),
  (43,⟨.slice 22,1,24,[.slice none 0 0],false⟩),
  (51,⟨.int .i64,1,8,[.int .i64 0],false⟩),
  (56,⟨.struct [(0,22),(1,3)],2,32,[.slice none 0 0,.int .i64 0],false⟩),
  (58,⟨.struct [(0,3),(1,3),(2,9),(3,3),(4,3),(5,3)],6,56,[.int .i64 0,.int .i64 0,.string ByteArray.empty,.int .i64 0,.int .i64 0,.int .i64 0],false⟩),
  (60,⟨.func,1,8,[.nilFunc],false⟩),
  (67,⟨.map 3 22,1,8,[(.map none)],false⟩),
  (68,⟨.map 3 4,1,8,[(.map none)],false⟩),
  (70,⟨.struct [(0,29),(2,31),(3,67),(4,68)],5,72,[.slice none 0 0,.int .i64 0,.slice none 0 0,(.map none),(.map none)],false⟩),
  (72,⟨.slice 75,1,24,[.slice none 0 0],false⟩),
  (75,⟨.struct [(0,3),(1,22),(2,4)],3,40,[.int .i64 0,.slice none 0 0,.bool false],false⟩),
  (89,⟨.slice 9,1,24,[.slice none 0 0],false⟩),
  (97,⟨.int .u64,1,8,[.int .u64 0],false⟩),
  (107,⟨.int .i64,1,8,[.int .i64 0],false⟩),
  (117,⟨.int .u64,1,8,[.int .u64 0],false⟩),
  (123,⟨.struct [(0,3),(1,3),(2,3),(3,3),(4,3),(5,3),(6,3)],7,56,[.int .i64 0,.int .i64 0,.int .i64 0,.int .i64 0,.int .i64 0,.int .i64 0,.int .i64 0],false⟩),
  (125,⟨.map 3 3,1,8,[(.map none)],false⟩),
  (131,⟨.int .u64,1,8,[.int .u64 0],false⟩),
  (142,⟨.slice 5,1,24,[.slice none 0 0],false⟩)]
theorem AcA : Kk Tryz.prog Tt:=tyGood_of ⟨⟨⟨by kernel_rfl,by kernel_rfl⟩,trivial⟩,⟨⟨by kernel_rfl,by kernel_rfl⟩,trivial⟩,⟨⟨by kernel_rfl,by kernel_rfl⟩,trivial⟩,⟨⟨by kernel_rfl,by kernel_rfl⟩,trivial⟩,⟨⟨by kernel_rfl,by kernel_rfl⟩,trivial⟩,⟨⟨by kernel_rfl,by kernel_rfl⟩,trivial⟩,⟨⟨by kernel_rfl,by kernel_rfl⟩,trivial⟩,⟨⟨by kernel_rfl,by kernel_rfl⟩,trivial⟩,⟨⟨by kernel_rfl,by kernel_rfl⟩,trivial⟩,⟨⟨by kernel_rfl,by kernel_rfl⟩,trivial⟩,⟨⟨by kernel_rfl,by kernel_rfl⟩,trivial⟩,⟨⟨by kernel_rfl,by kernel_rfl⟩,trivial⟩,⟨⟨by kernel_rfl,by kernel_rfl⟩,trivial⟩,⟨⟨by kernel_rfl,by kernel_rfl⟩,trivial⟩,⟨⟨by kernel_rfl,by kernel_rfl⟩,trivial⟩,⟨⟨by kernel_rfl,by kernel_rfl⟩,trivial⟩,⟨⟨by kernel_rfl,by kernel_rfl⟩,trivial⟩,⟨⟨by kernel_rfl,by kernel_rfl⟩,trivial⟩,⟨⟨by kernel_rfl,by kernel_rfl⟩,trivial⟩,⟨⟨by kernel_rfl,by kernel_rfl⟩,trivial⟩,⟨⟨by kernel_rfl,by kernel_rfl⟩,trivial⟩,⟨⟨by kernel_rfl,by kernel_rfl⟩,trivial⟩,⟨⟨by kernel_rfl,by kernel_rfl⟩,trivial⟩,⟨⟨by kernel_rfl,by kernel_rfl⟩,trivial⟩,⟨⟨by kernel_rfl,by kernel_rfl⟩,trivial⟩,⟨⟨by kernel_rfl,by kernel_rfl⟩,trivial⟩,⟨⟨by kernel_rfl,by kernel_rfl⟩,trivial⟩,⟨⟨by kernel_rfl,by kernel_rfl⟩,trivial⟩,⟨⟨by kernel_rfl,by kernel_rfl⟩,trivial⟩,⟨⟨by kernel_rfl,by kernel_rfl⟩,trivial⟩,⟨⟨by kernel_rfl,by kernel_rfl⟩,trivial⟩,trivial⟩ (by kernel_rfl) (by kernel_rfl)
theorem mixed : Tryz.prog.follows .mixedOrders=true:=by kernel_rfl
theorem RK {cx:Cx} {σ:St} {Q:Exit→St→Prop} {nt:Nat} (hnt:cx.nt=nt) {ops:Array Oper} {id:Nat} {draw:Bool} {r:List Code} (xs:List Orc) (sl:List (Nat×MV)) (ob:List (Nat×Obj))
    {q:Prop} (hq:q) (hQ:DW Tryz.prog cx r (Af sl ob) Q) (h:Ye Tryz.prog Tt nt ops xs (Ch sl) (Ch ob) draw σ=some ((sl,ob),q):=by kernel_rfl):DW Tryz.prog cx (.region id ops draw::r) σ Q:=DW.rk AcA mixed hnt xs sl ob hq h hQ
theorem RD {cx:Cx} {Q:Exit→St→Prop} {nt:Nat} (hnt:cx.nt=nt) {ops:Array Oper} {id:Nat} {draw:Bool} {r:List Code} {sl0:List (Nat×MV)} {ob0:List (Nat×Obj)} (xs:List Orc) (ds:List Nat) (us:List (Nat×MV)) (dk:List Nat) (uo:List (Nat×Obj))
    {q:Prop} (hq:q) (hQ:DW Tryz.prog cx r (Af (up ds us sl0) (up dk uo ob0)) Q) (h:Ye Tryz.prog Tt nt ops xs (Ch (up ds us sl0)) (Ch (up dk uo ob0)) draw (Af sl0 ob0)=some ((up ds us sl0,up dk uo ob0),q):=by kernel_rfl):DW Tryz.prog cx (.region id ops draw::r) (Af sl0 ob0) Q:=DW.rd AcA mixed hnt xs ds us dk uo hq hQ h
theorem SO {f:FuncId} {fn:Func} {c:Code} (hf:Tryz.prog.funcs[f]? = some fn) (hb:fn.body=some c)
    {args:List MV} {outs:List Body} {res:MV} {outs' news:List Body} (hlen:outs'.length=outs.length)
    (sl:List (Nat×MV)) (ob:List (Nat×Obj)) (hd:∀ cx:Cx,cx.nt=fn.ntmps→DW Tryz.prog cx [c] (Af sl ob) (finQ Tt fn.results.toList outs.length res (outs'++news)))
    (hname:fn.name ≠ "runtime.NumGoroutine" := by decide) (hle:Nat.ble args.length fn.ntmps=true:=by rfl) (hm:Nat.ble outs.length 1000=true:=by rfl)
    (h1:Sg (upN args.length 0) (upN outs.length 0) ⟨fun t=>(args[t]?).getD .any,Cb outs⟩=sl:=by kernel_rfl)
    (h2:Pu (upN outs.length 0) ⟨fun t=>(args[t]?).getD .any,Cb outs⟩=ob:=by kernel_rfl) :
    Spec Tryz.prog f args outs res outs' news:=spec_of AcA hf hname hb hlen (Nat.le_of_ble_eq_true hle) (Nat.le_of_ble_eq_true hm) h1 h2 fun cx hnt=>DW.start (hd cx hnt)
theorem RN {cx:Cx} {σ:St} {Q:Exit→St→Prop} {nt:Nat} (hnt:cx.nt=nt) {ops:Array Oper} {id:Nat} {draw:Bool} {r:List Code} (xs:List Orc) (sl:List (Nat×MV)) (ob:List (Nat×Obj))
    (ps:List (Nat×MV)) (qs:List (Nat×Body)) {q:Prop} (hq:q) (h:Ye Tryz.prog Tt nt ops xs (Ch sl) (Ch ob) draw σ=some ((Ss ps sl,Rd qs ob),q)) (hs:SP sl ps) (ho:OP ob qs)
    (hQ:DW Tryz.prog cx r (Af sl ob) Q):DW Tryz.prog cx (.region id ops draw::r) σ Q:=DW.rn AcA mixed hnt xs sl ob ps qs hq h hs ho hQ
theorem RT {cx:Cx} {σ:St} {nt:Nat} (hnt:cx.nt=nt) {ops:Array Oper} {draw:Bool} {sl:List (Nat×MV)} {ob:List (Nat×Obj)} (xs:List Orc)
    (ps:List (Nat×MV)) {q:Prop} (hq:q) (h:Ye Tryz.prog Tt nt ops xs (Ch sl) (Ch ob) draw σ=some ((Ss ps sl,ob),q)) (hs:SP sl ps):RegTo Tryz.prog cx ops draw σ sl ob:=RegTo.rn AcA mixed hnt xs ps hq h hs
theorem SOR {f:FuncId} {fn:Func} {c:Code} (hf:Tryz.prog.funcs[f]? = some fn) (hb:fn.body=some c)
    {args:List MV} {outs:List Body} {res:MV} {outs' news:List Body} (hlen:outs'.length=outs.length)
    (sl:List (Nat×MV)) (ob:List (Nat×Obj)) (hd:∀ cx:Cx,cx.nt=fn.ntmps→cx.rd=none→DW Tryz.prog cx [c] (Af sl ob) (finQ Tt fn.results.toList outs.length res (outs'++news)))
    (hname:fn.name ≠ "runtime.NumGoroutine" := by decide) (hle:Nat.ble args.length fn.ntmps=true:=by rfl) (hm:Nat.ble outs.length 1000=true:=by rfl)
    (h1:Sg (upN args.length 0) (upN outs.length 0) ⟨fun t=>(args[t]?).getD .any,Cb outs⟩=sl:=by kernel_rfl)
    (h2:Pu (upN outs.length 0) ⟨fun t=>(args[t]?).getD .any,Cb outs⟩=ob:=by kernel_rfl) :
    Spec Tryz.prog f args outs res outs' news:=Ahl AcA hf hname hb hlen (Nat.le_of_ble_eq_true hle) (Nat.le_of_ble_eq_true hm) h1 h2 fun cx hnt hrd=>DW.start (hd cx hnt hrd)
theorem SB {cd:Option Code} {c:Code} {nt:Nat} {args:List MV} {outs outs':List Body} (hb:cd=some c) (hlen:outs'.length=outs.length) (sl:List (Nat×MV)) (ob:List (Nat×Obj))
    (hd:∀ cx:Cx,cx.nt=nt→DW Tryz.prog cx [c] (Af sl ob) (bfin Tt outs.length outs')) (hle:args.length=nt:=by rfl) (hm:Nat.ble outs.length 1000=true:=by rfl)
    (h1:Sg (Ch sl) (upN outs.length 0) ⟨fun t=>(args[t]?).getD .any,Cb outs⟩=sl:=by kernel_rfl)
    (h2:Pu (upN outs.length 0) ⟨fun t=>(args[t]?).getD .any,Cb outs⟩=ob:=by kernel_rfl):∀ c':Code,cd=some c'→BSpec Tryz.prog nt c' args outs outs':=by
  intro c' h
  have e:c'=c:=Option.some.inj (h.symm.trans hb)
  subst e
  exact bspec_of AcA hlen hle (Nat.le_of_ble_eq_true hm) h1 h2 fun cx hnt=>DW.start (hd cx hnt)
theorem endB {σ:St} {m:Nat} {bs:List Body} (bs':List Body) (ex:List Nat) (res':MV) (h:fin Tt [] m ex σ=some (res',bs'):=by kernel_rfl) (e:res' = .p (.tup []):=by rfl) (e2:bs'=bs ++ []:=by rfl):bfin Tt m bs .normal σ:=⟨ex,by rw [← e,← e2]; exact h⟩
end Go.Dm

