/- Texts of the proof of MemberReads: the data machine, the models of the Go functions, their contracts. -/
import Derived.Test.YtonaidnipimjgaaGreatMemberReadsA2
import Derived.Test.YtonaidnipimjgaaGreatMemberReadsA1
import Derived.Test.YtonaidnipimjgaaGreatProg
set_option linter.unusedVariables false
set_option linter.unusedSimpArgs false
/- Plain theory, part 27: the library's partitions. -/
namespace Go.Dm
def PartQ (L : List Int) (a b : Nat) (r : Int × Bool × List Int) : Prop :=
 ∃ m : Nat,r.1 = (m : Int) ∧ a ≤ m ∧ m < b ∧ RP a b L r.2.2 ∧ (∀ k,a ≤ k → k < m → r.2.2.getD k 0 ≤ r.2.2.getD m 0) ∧ (∀ k,m < k → k < b → r.2.2.getD m 0 ≤ r.2.2.getD k 0)
structure PartI (L : List Int) (a b : Nat) (M : List Int) (i j : Nat) : Prop where
 rp : RP a b L M
 i1 : a + 1 ≤ i
 ij : i ≤ j + 1
 jb : j < b
 ja : a ≤ j
 lo : ∀ k,a + 1 ≤ k → k < i → M.getD k 0 < M.getD a 0
 hi : ∀ k,j < k → k < b → ¬ M.getD k 0 < M.getD a 0
theorem PartI.fin {L M : List Int} {a b i j : Nat} (hb : b ≤ L.length) (h : PartI L a b M i j) (hij : j < i) (t : Bool) : PartQ L a b ((j : Int),t,Dw M j a) := by
 have hM := h.rp.len
 have h1 := h.i1
 have h2 := h.ij
 have h3 := h.jb
 have h4 := h.ja
 have hj : j < M.length := by omega
 have ha : a < M.length := by omega
 have hg : ∀ r,(Dw M j a).getD r 0 = if r = a then M.getD j 0 else if r = j then M.getD a 0 else M.getD r 0 := fun r => Hy hj ha
 have hmid : (Dw M j a).getD j 0 = M.getD a 0 := by
  rw [hg]
  split
  ·rename_i e
   rw [e]
  ·rw [if_pos rfl]
 refine ⟨j,rfl,h4,h3,h.rp.trans (RP.swap (by omega) (by omega) (by omega) (by omega) (by omega)),?_,?_⟩
 ·intro k k1 k2
  simp only
  rw [hmid,hg]
  split
  ·have := h.lo j (by omega) (by omega)
   omega
  ·rw [if_neg (by omega)]
   have := h.lo k (by omega) (by omega)
   omega
 ·intro k k1 k2
  simp only
  rw [hmid,hg,if_neg (by omega),if_neg (by omega)]
  have := h.hi k k1 k2
  omega
theorem PartI.swap {L M : List Int} {a b i j : Nat} (hb : b ≤ L.length) (h : PartI L a b M i j) (hij : i ≤ j) (hi : ¬ M.getD i 0 < M.getD a 0) (hj : M.getD j 0 < M.getD a 0) : PartI L a b (Dw M i j) (i + 1) (j - 1) := by
 have hM := h.rp.len
 have h1 := h.i1
 have h3 := h.jb
 have hne : i ≠ j := fun e => by subst e; exact hi hj
 have hil : i < M.length := by omega
 have hjl : j < M.length := by omega
 have hg : ∀ r,(Dw M i j).getD r 0 = if r = j then M.getD i 0 else if r = i then M.getD j 0 else M.getD r 0 := fun r => Hy hil hjl
 have ha : (Dw M i j).getD a 0 = M.getD a 0 := by rw [hg,if_neg (by omega),if_neg (by omega)]
 refine ⟨h.rp.trans (RP.swap (by omega) (by omega) (by omega) (by omega) (by omega)),by omega,by omega,by omega,by omega,?_,?_⟩
 ·intro k k1 k2
  rw [ha,hg]
  by_cases e : k = i
  ·rw [if_neg (by omega),if_pos e]
   exact hj
  ·rw [if_neg (by omega),if_neg e]
   exact h.lo k k1 (by omega)
 ·intro k k1 k2
  rw [ha,hg]
  by_cases e : k = j
  ·rw [if_pos e]
   exact hi
  ·rw [if_neg e,if_neg (by omega)]
   exact h.hi k (by omega) k2
theorem PartI.incI {L M : List Int} {a b i j : Nat} (h : PartI L a b M i j) (hij : i ≤ j) (hi : M.getD i 0 < M.getD a 0) : PartI L a b M (i + 1) j := by
 refine ⟨h.rp,by have := h.i1; omega,by omega,h.jb,h.ja,fun k k1 k2 => ?_,h.hi⟩
 by_cases e : k = i
 ·subst e
  exact hi
 ·exact h.lo k k1 (by omega)
theorem PartI.decJ {L M : List Int} {a b i j : Nat} (h : PartI L a b M i j) (hij : i ≤ j) (hj : ¬ M.getD j 0 < M.getD a 0) : PartI L a b M i (j - 1) := by
 have h1 := h.i1
 have h3 := h.jb
 refine ⟨h.rp,by omega,by omega,by omega,by omega,h.lo,fun k k1 k2 => ?_⟩
 by_cases e : k = j
 ·subst e
  exact hj
 ·exact h.hi k (by omega) k2
theorem part_loop {L : List Int} {a b : Nat} (hb : b ≤ L.length) (hl : L.length ≤ 1000000) {M0 : List Int} {i0 j0 : Nat} (h0 : PartI L a b M0 i0 j0) : Ok (whileO (Gl (a : Int)) Ea (M0,(i0 : Int),(j0 : Int))) (PartQ L a b) := by
 have ea : Int.toNat (a : Int) = a := by omega
 refine Ok.while (fun s => ∃ i j : Nat,s.2.1 = (i : Int) ∧ s.2.2 = (j : Int) ∧ PartI L a b s.1 i j) (fun s => (s.2.2 + 1 - s.2.1).toNat) ⟨i0,j0,rfl,rfl,h0⟩ (by rw [Cs]; have := h0.jb; simp only; omega) ?_
 rintro ⟨M,x,y⟩ n ⟨i,j,hx,hy,h⟩ hn
 simp only at hx hy h
 subst hx hy
 unfold Gl
 simp only
 refine Ok.while (fun q => ∃ k : Nat,q = (k : Int) ∧ i ≤ k ∧ PartI L a b M k j) (fun q => ((j : Int) + 1 - q).toNat) ⟨i,rfl,Nat.le_refl _,h⟩ (by rw [Cs]; have := h.jb; omega) ?_
 rintro q n1 ⟨k,rfl,hik,hk⟩ hn1
 have hM := hk.rp.len
 have hjb := hk.jb
 have hka := hk.i1
 have hja := hk.ja
 have ek : Int.toNat (k : Int) = k := by omega
 have second : ((k : Int) ≤ (j : Int) → ¬ M.getD k 0 < M.getD a 0) → Ok (whileO (Gm (a : Int) (M,(i : Int),(j : Int)) n (k : Int)) Ea (j : Int)) (PartQ L a b) := by
  intro hstop
  refine Ok.while (fun q => ∃ m : Nat,q = (m : Int) ∧ PartI L a b M k m ∧ m ≤ j) (fun q => q.toNat) ⟨j,rfl,hk,Nat.le_refl _⟩ (by rw [Cs]; omega) ?_
  rintro q n2 ⟨m,rfl,hm,hmj⟩ hn2
  have hmb := hm.jb
  have hma := hm.ja
  have hkm := hm.ij
  have em : Int.toNat (m : Int) = m := by omega
  unfold Gm Er
  simp only
  rw [ea,em,ek]
  refine Ok.ite (fun c => ?_) fun c => ?_
  ·have c := of_decide_eq_true c
   refine Ok.guard (by omega) (Ok.guard (by omega) (Ok.guard (by omega) (Ok.guard (by omega) ?_)))
   refine Ok.step (Hw _ _) ?_
   refine Ok.ite (fun c2 => ?_) fun c2 => ?_
   ·have c2 : ¬ M.getD m 0 < M.getD a 0 := by simpa using c2
    have hw : w64 ((m : Int) - 1) = ((m - 1 : Nat) : Int) := by
     rw [At (by omega) (by omega)]
     omega
    rw [hw]
    exact hn2 _ ⟨m - 1,rfl,hm.decJ (by omega) c2,by omega⟩ (by omega)
   ·have c2 : M.getD m 0 < M.getD a 0 := by
     rw [Bool.not_eq_false'] at c2
     exact of_decide_eq_true c2
    refine Ok.ite (fun c3 => by have := of_decide_eq_true c3; omega) fun _ => ?_
    refine Ok.guard (by omega) (Ok.guard (by omega) (Ok.guard (by omega) (Ok.guard (by omega) (Ok.guard (by omega) (Ok.guard (by omega) (Ok.guard (by omega) (Ok.guard (by omega) ?_)))))))
    have w1 : w64 ((k : Int) + 1) = ((k + 1 : Nat) : Int) := by
     rw [At (by omega) (by omega)]
     omega
    have w2 : w64 ((m : Int) - 1) = ((m - 1 : Nat) : Int) := by
     rw [At (by omega) (by omega)]
     omega
    rw [w1,w2]
    have hsw := hm.swap hb (by omega) (hstop (by omega)) c2
    exact hn (Dw M k m,_,_) ⟨k + 1,m - 1,rfl,rfl,hsw⟩ (by simp only; omega)
  ·have c := of_decide_eq_false c
   simp only [Bool.false_eq_true,if_false]
   refine Ok.ite (fun _ => ?_) fun c3 => by have := of_decide_eq_false c3; omega
   refine Ok.guard (by omega) (Ok.guard (by omega) (Ok.guard (by omega) (Ok.guard (by omega) (Ok.guard (by omega) (Ok.guard (by omega) (Ok.guard (by omega) (Ok.guard (by omega) (Ok.ret ?_))))))))
   exact hm.fin hb (by omega) false
 unfold Ij En
 simp only
 rw [ea,ek]
 refine Ok.ite (fun c => ?_) fun c => ?_
 ·have c := of_decide_eq_true c
  refine Ok.guard (by omega) (Ok.guard (by omega) (Ok.guard (by omega) (Ok.guard (by omega) ?_)))
  refine Ok.step (Hw _ _) ?_
  refine Ok.ite (fun c2 => ?_) fun c2 => second fun _ => of_decide_eq_false c2
  have c2 := of_decide_eq_true c2
  have hw : w64 ((k : Int) + 1) = ((k + 1 : Nat) : Int) := by
   rw [At (by omega) (by omega)]
   omega
  rw [hw]
  exact hn1 _ ⟨k + 1,rfl,by omega,hk.incI (by omega) c2⟩ (by omega)
 ·have c := of_decide_eq_false c
  simp only [Bool.false_eq_true,if_false]
  exact second fun e => absurd e c
theorem AgI {L : List Int} {a b p : Nat} (hab : a + 1 < b) (hb : b ≤ L.length) (hl : L.length ≤ 1000000) (p1 : a ≤ p) (p2 : p < b) : Ok (Fu L (a : Int) (b : Int) (p : Int)) (PartQ L a b) := by
 have ea : Int.toNat (a : Int) = a := by omega
 have ep : Int.toNat (p : Int) = p := by omega
 have wa : w64 ((a : Int) + 1) = ((a + 1 : Nat) : Int) := by
  rw [At (by omega) (by omega)]
  omega
 have wb : w64 ((b : Int) - 1) = ((b - 1 : Nat) : Int) := by
  rw [At (by omega) (by omega)]
  omega
 have rp0 : RP a b L (Dw L a p) := RP.swap hb (Nat.le_refl _) (by omega) p1 p2
 generalize hS : Dw L a p = S at rp0
 have hS' : (L.set a (L.getD p 0)).set p (L.getD a 0) = S := hS
 have hlen := rp0.len
 have h0 : PartI L a b S (a + 1) (b - 1) := ⟨rp0,by omega,by omega,by omega,by omega,fun k k1 k2 => by omega,fun k k1 k2 => by omega⟩
 unfold Fu
 rw [ea,ep,wa]
 refine Ok.guard (by omega) (Ok.guard (by omega) (Ok.guard (by omega) (Ok.guard (by omega) (Ok.guard (by omega) (Ok.guard (by omega) (Ok.guard (by omega) (Ok.guard (by omega) ?_)))))))
 refine Ok.while (fun q => ∃ k : Nat,q = (k : Int) ∧ PartI L a b S k (b - 1)) (fun q => ((b : Int) - q).toNat) ⟨a + 1,rfl,h0⟩ (by rw [Cs]; omega) ?_
 rintro q n1 ⟨k,rfl,hk⟩ hn1
 have hka := hk.i1
 have ek : Int.toNat (k : Int) = k := by omega
 have second : (k ≤ b - 1 → ¬ S.getD k 0 < S.getD a 0) → Ok (whileO (Gk L (a : Int) (p : Int) (k : Int)) Ea ((b - 1 : Nat) : Int)) (PartQ L a b) := by
  intro hstop
  refine Ok.while (fun q => ∃ m : Nat,q = (m : Int) ∧ PartI L a b S k m ∧ m ≤ b - 1) (fun q => q.toNat) ⟨b - 1,rfl,hk,Nat.le_refl _⟩ (by rw [Cs]; omega) ?_
  rintro q n2 ⟨m,rfl,hm,hmj⟩ hn2
  have hmb := hm.jb
  have hma := hm.ja
  have hkm := hm.ij
  have em : Int.toNat (m : Int) = m := by omega
  unfold Gk Ep
  rw [ea,em,ek,ep,hS']
  refine Ok.ite (fun c => ?_) fun c => ?_
  ·have c := of_decide_eq_true c
   refine Ok.guard (by omega) (Ok.guard (by omega) (Ok.guard (by omega) (Ok.guard (by omega) ?_)))
   refine Ok.step (Hw _ _) ?_
   refine Ok.ite (fun c2 => ?_) fun c2 => ?_
   ·have c2 : ¬ S.getD m 0 < S.getD a 0 := by simpa using c2
    have hw : w64 ((m : Int) - 1) = ((m - 1 : Nat) : Int) := by
     rw [At (by omega) (by omega)]
     omega
    rw [hw]
    exact hn2 _ ⟨m - 1,rfl,hm.decJ (by omega) c2,by omega⟩ (by omega)
   ·have c2 : S.getD m 0 < S.getD a 0 := by
     rw [Bool.not_eq_false'] at c2
     exact of_decide_eq_true c2
    refine Ok.ite (fun c3 => by have := of_decide_eq_true c3; omega) fun _ => ?_
    refine Ok.guard (by omega) (Ok.guard (by omega) (Ok.guard (by omega) (Ok.guard (by omega) (Ok.guard (by omega) (Ok.guard (by omega) (Ok.guard (by omega) (Ok.guard (by omega) ?_)))))))
    have w1 : w64 ((k : Int) + 1) = ((k + 1 : Nat) : Int) := by
     rw [At (by omega) (by omega)]
     omega
    have w2 : w64 ((m : Int) - 1) = ((m - 1 : Nat) : Int) := by
     rw [At (by omega) (by omega)]
     omega
    rw [w1,w2]
    exact part_loop hb hl (hm.swap hb (by omega) (hstop (by omega)) c2)
  ·have c := of_decide_eq_false c
   simp only [Bool.false_eq_true,if_false]
   refine Ok.ite (fun _ => ?_) fun c3 => by have := of_decide_eq_false c3; omega
   refine Ok.guard (by omega) (Ok.guard (by omega) (Ok.guard (by omega) (Ok.guard (by omega) (Ok.guard (by omega) (Ok.guard (by omega) (Ok.guard (by omega) (Ok.guard (by omega) (Ok.ret ?_))))))))
   exact hm.fin hb (by omega) true
 unfold Ir Eo
 rw [wb,ea,ek,ep,hS']
 refine Ok.ite (fun c => ?_) fun c => ?_
 ·have c := of_decide_eq_true c
  refine Ok.guard (by omega) (Ok.guard (by omega) (Ok.guard (by omega) (Ok.guard (by omega) ?_)))
  refine Ok.step (Hw _ _) ?_
  refine Ok.ite (fun c2 => ?_) fun c2 => second fun _ => of_decide_eq_false c2
  have c2 := of_decide_eq_true c2
  have hw : w64 ((k : Int) + 1) = ((k + 1 : Nat) : Int) := by
   rw [At (by omega) (by omega)]
   omega
  rw [hw]
  exact hn1 _ ⟨k + 1,rfl,hk.incI (by omega) c2⟩ (by omega)
 ·have c := of_decide_eq_false c
  simp only [Bool.false_eq_true,if_false]
  exact second fun e => by omega
structure PartF (L : List Int) (a b : Nat) (v : Int) (M : List Int) (i j : Nat) : Prop where
 rp : RP a b L M
 pv : M.getD a 0 = v
 i1 : a + 1 ≤ i
 ij : i ≤ j + 1
 jb : j < b
 ja : a ≤ j
 lo : ∀ k,a + 1 ≤ k → k < i → ¬ v < M.getD k 0
 hi : ∀ k,j < k → k < b → v < M.getD k 0
theorem Adh {L : List Int} {a b p : Nat} (hab : a + 1 < b) (hb : b ≤ L.length) (hl : L.length ≤ 1000000) (p1 : a ≤ p) (p2 : p < b) :
  Ok (Dz L (a : Int) (b : Int) (p : Int)) (fun r => ∃ m : Nat,r.1 = (m : Int) ∧ a + 1 ≤ m ∧ m ≤ b ∧ RP a b L r.2 ∧ (∀ k,a ≤ k → k < m → r.2.getD k 0 ≤ L.getD p 0) ∧ (∀ k,m ≤ k → k < b → L.getD p 0 < r.2.getD k 0)) := by
 have ea : Int.toNat (a : Int) = a := by omega
 have ep : Int.toNat (p : Int) = p := by omega
 have wa : w64 ((a : Int) + 1) = ((a + 1 : Nat) : Int) := by
  rw [At (by omega) (by omega)]
  omega
 have wb : w64 ((b : Int) - 1) = ((b - 1 : Nat) : Int) := by
  rw [At (by omega) (by omega)]
  omega
 have rp0 : RP a b L (Dw L a p) := RP.swap hb (Nat.le_refl _) (by omega) p1 p2
 have hpv : (Dw L a p).getD a 0 = L.getD p 0 := by
  rw [Hy (by omega) (by omega)]
  split
  ·rename_i e
   rw [e]
  ·rw [if_pos rfl]
 unfold Dz
 rw [ea,ep,wa,wb]
 refine Ok.guard (by omega) (Ok.guard (by omega) (Ok.guard (by omega) (Ok.guard (by omega) (Ok.guard (by omega) (Ok.guard (by omega) (Ok.guard (by omega) (Ok.guard (by omega) ?_)))))))
 refine Ok.while (fun s => ∃ i j : Nat,s.2.2 = (i : Int) ∧ s.2.1 = (j : Int) ∧ PartF L a b (L.getD p 0) s.1 i j) (fun s => (s.2.1 + 1 - s.2.2).toNat) ⟨a + 1,b - 1,rfl,rfl,⟨rp0,hpv,by omega,by omega,by omega,by omega,fun k k1 k2 => by omega,fun k k1 k2 => by omega⟩⟩ (by rw [Cs]; simp only; omega) ?_
 rintro ⟨M,y,x⟩ n ⟨i,j,hx,hy,h⟩ hn
 simp only at hx hy h
 subst hx hy
 unfold Hd
 simp only
 refine Ok.while (fun q => ∃ k : Nat,q = (k : Int) ∧ i ≤ k ∧ PartF L a b (L.getD p 0) M k j) (fun q => ((j : Int) + 1 - q).toNat) ⟨i,rfl,Nat.le_refl _,h⟩ (by rw [Cs]; have := h.jb; omega) ?_
 rintro q n1 ⟨k,rfl,hik,hk⟩ hn1
 have hM := hk.rp.len
 have hjb := hk.jb
 have hka := hk.i1
 have hja := hk.ja
 have hpv := hk.pv
 have ek : Int.toNat (k : Int) = k := by omega
 have second : ((k : Int) ≤ (j : Int) → L.getD p 0 < M.getD k 0) → Ok (whileO (Ey (a : Int) (M,(j : Int),(i : Int)) n (k : Int)) Ea (j : Int)) (fun r => ∃ m : Nat,r.1 = (m : Int) ∧ a + 1 ≤ m ∧ m ≤ b ∧ RP a b L r.2 ∧ (∀ k,a ≤ k → k < m → r.2.getD k 0 ≤ L.getD p 0) ∧ (∀ k,m ≤ k → k < b → L.getD p 0 < r.2.getD k 0)) := by
  intro hstop
  refine Ok.while (fun q => ∃ m : Nat,q = (m : Int) ∧ PartF L a b (L.getD p 0) M k m ∧ m ≤ j) (fun q => q.toNat) ⟨j,rfl,hk,Nat.le_refl _⟩ (by rw [Cs]; omega) ?_
  rintro q n2 ⟨m,rfl,hm,hmj⟩ hn2
  have hmb := hm.jb
  have hma := hm.ja
  have hkm := hm.ij
  have em : Int.toNat (m : Int) = m := by omega
  unfold Ey Df
  simp only
  rw [ea,em,ek]
  refine Ok.ite (fun c => ?_) fun c => ?_
  ·have c := of_decide_eq_true c
   refine Ok.guard (by omega) (Ok.guard (by omega) (Ok.guard (by omega) (Ok.guard (by omega) ?_)))
   refine Ok.step (Hw _ _) ?_
   refine Ok.ite (fun c2 => ?_) fun c2 => ?_
   ·have c2 := of_decide_eq_true c2
    have hw : w64 ((m : Int) - 1) = ((m - 1 : Nat) : Int) := by
     rw [At (by omega) (by omega)]
     omega
    rw [hw]
    refine hn2 _ ⟨m - 1,rfl,⟨hm.rp,hm.pv,hm.i1,by omega,by omega,by omega,hm.lo,fun r r1 r2 => ?_⟩,by omega⟩ (by omega)
    by_cases e : r = m
    ·subst e
     omega
    ·exact hm.hi r (by omega) r2
   ·have c2 := of_decide_eq_false c2
    refine Ok.ite (fun c3 => by have := of_decide_eq_true c3; omega) fun _ => ?_
    refine Ok.guard (by omega) (Ok.guard (by omega) (Ok.guard (by omega) (Ok.guard (by omega) (Ok.guard (by omega) (Ok.guard (by omega) (Ok.guard (by omega) (Ok.guard (by omega) ?_)))))))
    have w1 : w64 ((k : Int) + 1) = ((k + 1 : Nat) : Int) := by
     rw [At (by omega) (by omega)]
     omega
    have w2 : w64 ((m : Int) - 1) = ((m - 1 : Nat) : Int) := by
     rw [At (by omega) (by omega)]
     omega
    rw [w1,w2]
    have hst := hstop (by omega)
    have hne : k ≠ m := fun e => by subst e; omega
    have hg : ∀ r,(Dw M k m).getD r 0 = if r = m then M.getD k 0 else if r = k then M.getD m 0 else M.getD r 0 := fun r => Hy (by omega) (by omega)
    refine hn (Dw M k m,_,_) ⟨k + 1,m - 1,rfl,rfl,⟨hm.rp.trans (RP.swap (by omega) (by omega) (by omega) (by omega) (by omega)),?_,by omega,by omega,by omega,by omega,?_,?_⟩⟩ (by simp only; omega)
    ·rw [hg,if_neg (by omega),if_neg (by omega)]
     exact hpv
    ·intro r r1 r2
     rw [hg]
     by_cases e : r = k
     ·rw [if_neg (by omega),if_pos e]
      omega
     ·rw [if_neg (by omega),if_neg e]
      exact hm.lo r r1 (by omega)
    ·intro r r1 r2
     rw [hg]
     by_cases e : r = m
     ·rw [if_pos e]
      exact hst
     ·rw [if_neg e,if_neg (by omega)]
      exact hm.hi r (by omega) r2
  ·have c := of_decide_eq_false c
   simp only [Bool.false_eq_true,if_false]
   refine Ok.ite (fun _ => Ok.ret ⟨k,rfl,by omega,by omega,hm.rp,fun r r1 r2 => ?_,fun r r1 r2 => hm.hi r (by omega) r2⟩) fun c3 => by have := of_decide_eq_false c3; omega
   by_cases e : r = a
   ·subst e
    simp only
    omega
   ·have := hm.lo r (by omega) r2
    simp only
    omega
 unfold He Dh
 simp only
 rw [ea,ek]
 refine Ok.ite (fun c => ?_) fun c => ?_
 ·have c := of_decide_eq_true c
  refine Ok.guard (by omega) (Ok.guard (by omega) (Ok.guard (by omega) (Ok.guard (by omega) ?_)))
  refine Ok.step (Hw _ _) ?_
  refine Ok.ite (fun c2 => ?_) fun c2 => ?_
  ·have c2 : ¬ M.getD a 0 < M.getD k 0 := by simpa using c2
   have hw : w64 ((k : Int) + 1) = ((k + 1 : Nat) : Int) := by
    rw [At (by omega) (by omega)]
    omega
   rw [hw]
   refine hn1 _ ⟨k + 1,rfl,by omega,⟨hk.rp,hk.pv,by omega,by omega,hk.jb,hk.ja,fun r r1 r2 => ?_,hk.hi⟩⟩ (by omega)
   by_cases e : r = k
   ·subst e
    omega
   ·exact hk.lo r r1 (by omega)
  ·have c2 : M.getD a 0 < M.getD k 0 := by
    rw [Bool.not_eq_false'] at c2
    exact of_decide_eq_true c2
   exact second fun _ => by omega
 ·have c := of_decide_eq_false c
  simp only [Bool.false_eq_true,if_false]
  exact second fun e => absurd e c
end Go.Dm

/- Plain theory, part 28: the library's heap sort. -/
namespace Go.Dm
def Ade (a lo hi : Nat) (M : List Int) : Prop := ∀ c,1 ≤ c → c < hi → lo ≤ (c - 1) / 2 → M.getD (a + c) 0 ≤ M.getD (a + (c - 1) / 2) 0
theorem Ado {L : List Int} {a b lo hi : Nat} (hb : b ≤ L.length) (hl : L.length ≤ 1000000) (hhi : a + hi ≤ b) (hlo : lo ≤ 1000000) (hpre : Ade a (lo + 1) hi L) :
  Ok (Eh L (lo : Int) (hi : Int) (a : Int)) (fun M => RP a (a + hi) L M ∧ Ade a lo hi M) := by
 unfold Eh
 refine Ok.while (fun s => ∃ r : Nat,s.2 = (r : Int) ∧ lo ≤ r ∧ r ≤ 1000000 ∧ RP a (a + hi) L s.1 ∧ (∀ c,1 ≤ c → c < hi → lo ≤ (c - 1) / 2 → (c - 1) / 2 ≠ r → s.1.getD (a + c) 0 ≤ s.1.getD (a + (c - 1) / 2) 0) ∧
  (1 ≤ r → lo ≤ (r - 1) / 2 → ∀ c,1 ≤ c → c < hi → (c - 1) / 2 = r → s.1.getD (a + c) 0 ≤ s.1.getD (a + (r - 1) / 2) 0)) (fun s => 1000001 - s.2.toNat) ?_ (by rw [Cs]; omega) ?_
 ·exact ⟨lo,rfl,Nat.le_refl _,hlo,.refl _ _ _,fun c c1 c2 c3 c4 => hpre c c1 c2 (by omega),fun h1 h2 => by omega⟩
 rintro ⟨M,x⟩ n ⟨r,hx,r1,r2,rp,hA,hB⟩ hn
 simp only at hx rp hA hB
 subst hx
 have hM := rp.len
 have w1 : w64 ((w64 (2 * (r : Int))) + 1) = ((2 * r + 1 : Nat) : Int) := by
  rw [At (n := 2 * (r : Int)) (by omega) (by omega),At (by omega) (by omega)]
  omega
 have w2 : w64 (((2 * r + 1 : Nat) : Int) + 1) = ((2 * r + 2 : Nat) : Int) := by
  rw [At (by omega) (by omega)]
  omega
 unfold Jb
 simp only
 rw [w1,w2]
 refine Ok.ite (fun c => ?_) fun c => ?_
 ·have c := of_decide_eq_true c
  refine Ok.ret ⟨rp,fun d d1 d2 d3 => hA d d1 d2 d3 (by omega)⟩
 have c := of_decide_eq_false c
 have hr : 2 * r + 1 < hi := by omega
 have hJ4 : ∀ m : Nat,m < hi → (m = 2 * r + 1 ∨ m = 2 * r + 2) → (∀ d,1 ≤ d → d < hi → (d - 1) / 2 = r → M.getD (a + d) 0 ≤ M.getD (a + m) 0) → Ok (Dt (a : Int) (M,(r : Int)) n (m : Int)) (fun M => RP a (a + hi) L M ∧ Ade a lo hi M) := by
  intro m hm hmc hmax
  have e1 : w64 ((a : Int) + (r : Int)) = ((a + r : Nat) : Int) := by
   rw [At (by omega) (by omega)]
   omega
  have e2 : w64 ((a : Int) + (m : Int)) = ((a + m : Nat) : Int) := by
   rw [At (by omega) (by omega)]
   omega
  have e3 : Int.toNat ((a + r : Nat) : Int) = a + r := by omega
  have e4 : Int.toNat ((a + m : Nat) : Int) = a + m := by omega
  unfold Dt
  simp only
  rw [e1,e2,e3,e4]
  refine Ok.guard (by omega) (Ok.guard (by omega) (Ok.guard (by omega) (Ok.guard (by omega) ?_)))
  refine Ok.step (Hw _ _) ?_
  refine Ok.ite (fun c2 => ?_) fun c2 => ?_
  ·have c2 : ¬ M.getD (a + r) 0 < M.getD (a + m) 0 := by simpa using c2
   refine Ok.ret ⟨rp,fun d d1 d2 d3 => ?_⟩
   by_cases e : (d - 1) / 2 = r
   ·rw [e]
    have := hmax d d1 d2 e
    omega
   ·exact hA d d1 d2 d3 e
  ·have c2 : M.getD (a + r) 0 < M.getD (a + m) 0 := by
    rw [Bool.not_eq_false'] at c2
    exact of_decide_eq_true c2
   refine Ok.guard (by omega) (Ok.guard (by omega) (Ok.guard (by omega) (Ok.guard (by omega) (Ok.guard (by omega) (Ok.guard (by omega) (Ok.guard (by omega) (Ok.guard (by omega) ?_)))))))
   have hg : ∀ q,(Dw M (a + r) (a + m)).getD q 0 = if q = a + m then M.getD (a + r) 0 else if q = a + r then M.getD (a + m) 0 else M.getD q 0 := fun q => Hy (by omega) (by omega)
   refine hn (Dw M (a + r) (a + m),(m : Int)) ⟨m,rfl,by omega,by omega,rp.trans (RP.swap (by omega) (by omega) (by omega) (by omega) (by omega)),?_,?_⟩ (by simp only; omega)
   ·intro d d1 d2 d3 d4
    simp only
    rw [hg,hg]
    by_cases ep : (d - 1) / 2 = r
    ·rw [if_neg (c := a + (d - 1) / 2 = a + m) (by omega),if_pos (c := a + (d - 1) / 2 = a + r) (by omega)]
     by_cases ed : d = m
     ·rw [if_pos (by omega)]
      omega
     ·rw [if_neg (by omega),if_neg (by omega)]
      exact hmax d d1 d2 ep
    ·rw [if_neg (c := a + (d - 1) / 2 = a + m) (by omega),if_neg (c := a + (d - 1) / 2 = a + r) (by omega),if_neg (c := a + d = a + m) (by omega)]
     by_cases ed : d = r
     ·rw [if_pos (by omega)]
      have := hB (by omega) (by omega) m (by omega) hm (by omega)
      rw [ed]
      exact this
     ·rw [if_neg (by omega)]
      exact hA d d1 d2 d3 ep
   ·intro _ _ d d1 d2 d3
    simp only
    have hpm : (m - 1) / 2 = r := by omega
    rw [hpm,hg,hg,if_neg (by omega),if_neg (by omega),if_neg (by omega),if_pos rfl]
    have := hA d d1 d2 (by omega) (by omega)
    rw [d3] at this
    exact this
 unfold Fh
 simp only
 have e5 : w64 ((a : Int) + ((2 * r + 1 : Nat) : Int)) = ((a + (2 * r + 1) : Nat) : Int) := by
  rw [At (by omega) (by omega)]
  omega
 have e6 : w64 (((a + (2 * r + 1) : Nat) : Int) + 1) = ((a + (2 * r + 2) : Nat) : Int) := by
  rw [At (by omega) (by omega)]
  omega
 have e7 : Int.toNat ((a + (2 * r + 1) : Nat) : Int) = a + (2 * r + 1) := by omega
 have e8 : Int.toNat ((a + (2 * r + 2) : Nat) : Int) = a + (2 * r + 2) := by omega
 rw [w1,w2,e5,e6,e7,e8]
 refine Ok.ite (fun c2 => ?_) fun c2 => ?_
 ·have c2 := of_decide_eq_true c2
  refine Ok.guard (by omega) (Ok.guard (by omega) (Ok.guard (by omega) (Ok.guard (by omega) ?_)))
  refine Ok.step (Hw _ _) ?_
  refine Ok.ite (fun c3 => hJ4 (2 * r + 2) (by omega) (.inr rfl) fun d d1 d2 d3 => ?_) fun c3 => hJ4 (2 * r + 1) (by omega) (.inl rfl) fun d d1 d2 d3 => ?_
  ·have c3 := of_decide_eq_true c3
   by_cases e : d = 2 * r + 2
   ·rw [e]
    omega
   ·have : d = 2 * r + 1 := by omega
    rw [this]
    omega
  ·have c3 := of_decide_eq_false c3
   by_cases e : d = 2 * r + 1
   ·rw [e]
    omega
   ·have : d = 2 * r + 2 := by omega
    rw [this]
    omega
 ·have c2 := of_decide_eq_false c2
  simp only [Bool.false_eq_true,if_false]
  refine hJ4 (2 * r + 1) (by omega) (.inl rfl) fun d d1 d2 d3 => ?_
  have : d = 2 * r + 1 := by omega
  rw [this]
  omega
theorem heap_max {a hi : Nat} {M : List Int} (h : Ade a 0 hi M) : ∀ c,c < hi → M.getD (a + c) 0 ≤ M.getD a 0 := by
 intro c
 induction c using Nat.strongRecOn with
 | ind c ih =>
  intro hc
  by_cases e : c = 0
  ·subst e
   simp
  ·have h1 := h c (by omega) hc (by omega)
   have h2 := ih ((c - 1) / 2) (by omega) (by omega)
   omega
theorem Ahv {L : List Int} {a b : Nat} (hab : a < b) (hb : b ≤ L.length) (hl : L.length ≤ 1000000) : Ok (Fy L (a : Int) (b : Int)) (fun M => RP a b L M ∧ Gh a b M) := by
 have wn : w64 ((b : Int) - (a : Int)) = ((b - a : Nat) : Int) := by
  rw [At (by omega) (by omega)]
  omega
 have wn1 : w64 (((b - a : Nat) : Int) - 1) = ((b - a - 1 : Nat) : Int) := by
  rw [At (by omega) (by omega)]
  omega
 have wh : w64 (Int.tdiv ((b - a - 1 : Nat) : Int) 2) = (((b - a - 1) / 2 : Nat) : Int) := by
  rw [Int.tdiv_eq_ediv_of_nonneg (by omega),At (by omega) (by omega)]
  omega
 have ea : Int.toNat (a : Int) = a := by omega
 unfold Fy
 rw [wn,wn1,wh]
 refine Ok.while (fun s => ∃ k : Nat,s.2 = (k : Int) - 1 ∧ k ≤ 1000000 ∧ RP a b L s.1 ∧ Ade a k (b - a) s.1) (fun s => (s.2 + 1).toNat) ?_ ?_ ?_
 ·exact ⟨(b - a - 1) / 2 + 1,by simp only; omega,by omega,.refl _ _ _,fun c c1 c2 c3 => by omega⟩
 ·rw [Cs]
  simp only
  omega
 rintro ⟨M,x⟩ n ⟨k,hx,hk,rp,hp⟩ hn
 simp only at hx rp hp
 subst hx
 have hM := rp.len
 unfold Jh
 simp only
 refine Ok.ite (fun c => ?_) fun c => ?_
 ·have c := of_decide_eq_true c
  have ek : (k : Int) - 1 = ((k - 1 : Nat) : Int) := by omega
  rw [wn,ek]
  refine Ok.bind (Ado (b := b) (by omega) (by omega) (by omega) (by omega) (by rw [show k - 1 + 1 = k by omega]; exact hp)) fun N ⟨rn,hn2⟩ => ?_
  refine Ok.guard rn.len.symm (hn _ ⟨k - 1,?_,by omega,rp.trans (by rw [show a + (b - a) = b by omega] at rn; exact rn),hn2⟩ ?_)
  ·simp only
   rw [At (by omega) (by omega)]
  ·simp only
   rw [At (by omega) (by omega)]
   omega
 ·have c := of_decide_eq_false c
  have k0 : k = 0 := by omega
  subst k0
  rw [wn,wn1]
  clear hn
  refine Ok.while (fun s => ∃ k : Nat,s.2 = (k : Int) - 1 ∧ k ≤ b - a ∧ RP a b L s.1 ∧ Ade a 0 k s.1 ∧ (∀ p q,k ≤ p → p < q → q < b - a → s.1.getD (a + p) 0 ≤ s.1.getD (a + q) 0) ∧ (∀ p q,p < k → k ≤ q → q < b - a → s.1.getD (a + p) 0 ≤ s.1.getD (a + q) 0)) (fun s => (s.2 + 1).toNat) ?_ ?_ ?_
  ·exact ⟨b - a,by simp only; omega,Nat.le_refl _,rp,hp,fun p q h1 h2 h3 => by omega,fun p q h1 h2 h3 => by omega⟩
  ·rw [Cs]
   simp only
   omega
  clear rp hp hM hk c
  rintro ⟨M,x⟩ n ⟨k,hx,hk,rp,hp,h1,h2⟩ hn
  simp only at hx rp hp h1 h2
  subst hx
  have hM := rp.len
  unfold Ji
  simp only
  refine Ok.ite (fun c => ?_) fun c => ?_
  ·have c := of_decide_eq_true c
   obtain ⟨i,rfl⟩ : ∃ i,k = i + 1 := ⟨k - 1,by omega⟩
   have ek : ((i + 1 : Nat) : Int) - 1 = (i : Int) := by omega
   have e1 : w64 ((a : Int) + (i : Int)) = ((a + i : Nat) : Int) := by
    rw [At (by omega) (by omega)]
    omega
   have e2 : Int.toNat ((a + i : Nat) : Int) = a + i := by omega
   rw [ek,e1,e2,ea]
   refine Ok.guard (by omega) (Ok.guard (by omega) (Ok.guard (by omega) (Ok.guard (by omega) (Ok.guard (by omega) (Ok.guard (by omega) (Ok.guard (by omega) (Ok.guard (by omega) ?_)))))))
   have hS : (M.set a (M.getD (a + i) 0)).set (a + i) (M.getD a 0) = Dw M a (a + i) := rfl
   rw [hS]
   have hg : ∀ q,(Dw M a (a + i)).getD q 0 = if q = a + i then M.getD a 0 else if q = a then M.getD (a + i) 0 else M.getD q 0 := fun q => Hy (by omega) (by omega)
   have hmax := heap_max hp
   have hsl := AbN M a (a + i)
   have rps : RP a b M (Dw M a (a + i)) := RP.swap (by omega) (by omega) (by omega) (by omega) (by omega)
   generalize Dw M a (a + i) = S at *
   refine Ok.bind (Ado (L := S) (a := a) (b := b) (lo := 0) (hi := i) (by omega) (by omega) (by omega) (by omega) (fun d d1 d2 d3 => ?_)) fun N ⟨rn,hn2⟩ => ?_
   ·rw [hg,hg,if_neg (by omega),if_neg (by omega),if_neg (by omega),if_neg (by omega)]
    exact hp d d1 (by omega) (by omega)
   refine Ok.guard rn.len.symm ?_
   have hwi : w64 ((i : Int) - 1) = (i : Int) - 1 := At (by omega) (by omega)
   rw [hwi]
   have hout : ∀ q,i ≤ q → N.getD (a + q) 0 = S.getD (a + q) 0 := fun q hq => rn.out (a + q) (by omega)
   have hSi : S.getD (a + i) 0 = M.getD a 0 := by rw [hg,if_pos rfl]
   have hSq : ∀ q,i < q → S.getD (a + q) 0 = M.getD (a + q) 0 := fun q hq => by rw [hg,if_neg (by omega),if_neg (by omega)]
   have hSp : ∀ v : Int,(∀ p,p < i + 1 → M.getD (a + p) 0 ≤ v) → ∀ p,p < i → N.getD (a + p) 0 ≤ v := by
    intro v hv p hp'
    refine rn.all (P := fun z => z ≤ v) (fun r r1 r2 => ?_) (a + p) (by omega) (by omega)
    rw [hg]
    split
    ·exact hv 0 (by omega)
    ·split
     ·exact hv i (by omega)
     ·have := hv (r - a) (by omega)
      rw [show a + (r - a) = r by omega] at this
      exact this
   refine hn _ ⟨i,rfl,by omega,rp.trans (rps.trans (rn.widen (Nat.le_refl _) (by omega))),hn2,?_,?_⟩ (by simp only; omega)
   ·intro p q p1 p2 p3
    simp only
    rw [hout p p1,hout q (by omega),hSq q (by omega)]
    by_cases e : p = i
    ·rw [e,hSi]
     have := h2 0 q (by omega) (by omega) p3
     simpa using this
    ·rw [hSq p (by omega)]
     exact h1 p q (by omega) p2 p3
   ·intro p q p1 p2 p3
    simp only
    rw [hout q p2]
    by_cases e : q = i
    ·rw [e,hSi]
     exact hSp _ (fun r hr => hmax r hr) p p1
    ·rw [hSq q (by omega)]
     exact hSp _ (fun r hr => h2 r q hr (by omega) p3) p p1
  ·have c := of_decide_eq_false c
   have k0 : k = 0 := by omega
   subst k0
   refine Ok.ret ⟨rp,fun p q p1 p2 p3 => ?_⟩
   have := h1 (p - a) (q - a) (by omega) (by omega) (by omega)
   rw [show a + (p - a) = p by omega,show a + (q - a) = q by omega] at this
   exact this
end Go.Dm

/- Plain theory, part 29: the library's sort sorts. -/
namespace Go.Dm
theorem kand_le {x y : Int} (h0 : 0 ≤ y) (h1 : y < 18446744073709551616) : 0 ≤ kand .u64 x y ∧ kand .u64 x y ≤ y := by
 unfold kand
 have hb : IntKind.u64.bits = 64 := rfl
 rw [hb]
 obtain ⟨n,rfl⟩ : ∃ n : Nat,y = (n : Int) := ⟨y.toNat,by omega⟩
 have hn : n < 2 ^ 64 := by omega
 have hle : (BitVec.ofInt 64 x &&& BitVec.ofInt 64 (n : Int)).toNat ≤ n := by
  rw [BitVec.toNat_and]
  refine Nat.le_trans Nat.and_le_right ?_
  rw [BitVec.ofInt_natCast,BitVec.toNat_ofNat]
  exact Nat.mod_le _ _
 have hw : IntKind.u64.wrap (((BitVec.ofInt 64 x &&& BitVec.ofInt 64 (n : Int)).toNat : Nat) : Int) = (((BitVec.ofInt 64 x &&& BitVec.ofInt 64 (n : Int)).toNat : Nat) : Int) := by
  generalize (BitVec.ofInt 64 x &&& BitVec.ofInt 64 (n : Int)).toNat = q at *
  have : IntKind.u64.wrap (q : Int) = (q : Int) % 18446744073709551616 := rfl
  rw [this]
  omega
 rw [hw]
 omega
theorem pow2_all : (List.range 1001).all (fun n => (Gr (n : Int)).any (fun k => n == 0 || (decide ((n : Int) < k) && decide (k ≤ 2 * (n : Int)) && (IntKind.u64.wrap (k - 1) == k - 1)))) = true := by decide +kernel
theorem pow2_ok {n : Nat} (h0 : 0 < n) (hn : n ≤ 1000) : Ok (Gr (n : Int)) (fun k => (n : Int) < k ∧ k ≤ 2 * (n : Int) ∧ IntKind.u64.wrap (k - 1) = k - 1) := by
 have := List.all_eq_true.mp pow2_all n (by rw [List.mem_range]; omega)
 cases hb : Gr (n : Int) with
 | none => rw [hb] at this; simp at this
 | some k =>
  rw [hb] at this
  simp only [Option.any_some,Bool.or_eq_true,beq_iff_eq,Bool.and_eq_true,decide_eq_true_eq] at this
  rcases this with h | ⟨⟨h1,h2⟩,h3⟩
  ·omega
  ·exact ⟨k,rfl,h1,h2,h3⟩
def InR (a b : Nat) (x : Int) : Prop := ∃ n : Nat,x = (n : Int) ∧ a ≤ n ∧ n < b
theorem Acu {L : List Int} {a b : Nat} (hb : b ≤ L.length) {x y : Int} (hx : InR a b x) (hy : InR a b y) (c : Int) : Ok (Cr L x y c) (fun r => InR a b r.1 ∧ InR a b r.2.1) := by
 obtain ⟨n,rfl,n1,n2⟩ := hx
 obtain ⟨m,rfl,m1,m2⟩ := hy
 unfold Cr
 refine Ok.guard (by omega) (Ok.guard (by omega) ?_)
 refine Ok.step (Hw _ _) ?_
 exact Ok.ite (fun _ => Ok.ret ⟨⟨m,rfl,m1,m2⟩,⟨n,rfl,n1,n2⟩⟩) fun _ => Ok.ret ⟨⟨n,rfl,n1,n2⟩,⟨m,rfl,m1,m2⟩⟩
theorem Aga {L : List Int} {a b : Nat} (hb : b ≤ L.length) {x y z : Int} (hx : InR a b x) (hy : InR a b y) (hz : InR a b z) (c : Int) : Ok (Dd L x y z c) (fun r => InR a b r.1) := by
 unfold Dd
 refine Ok.bind (Acu hb hx hy c) fun r ⟨r1,r2⟩ => ?_
 refine Ok.bind (Acu hb r2 hz _) fun s ⟨s1,s2⟩ => ?_
 refine Ok.bind (Acu hb r1 s1 _) fun t ⟨t1,t2⟩ => ?_
 exact Ok.ret t2
theorem Aah {L : List Int} {a b : Nat} (hb : b ≤ L.length) (hl : L.length ≤ 1000000) {n : Nat} (n1 : a + 1 ≤ n) (n2 : n + 1 < b) (c : Int) : Ok (Bu L (n : Int) c) (fun r => InR a b r.1) := by
 unfold Bu
 have e1 : w64 ((n : Int) - 1) = ((n - 1 : Nat) : Int) := by
  rw [At (by omega) (by omega)]
  omega
 have e2 : w64 ((n : Int) + 1) = ((n + 1 : Nat) : Int) := by
  rw [At (by omega) (by omega)]
  omega
 rw [e1,e2]
 refine Ok.bind (Aga (a := a) (b := b) hb ⟨n - 1,rfl,by omega,by omega⟩ ⟨n,rfl,by omega,by omega⟩ ⟨n + 1,rfl,by omega,by omega⟩ c) fun r hr => ?_
 exact Ok.ret hr
theorem AfF {L : List Int} {a b : Nat} (hab : a + 12 < b) (hb : b ≤ L.length) (hl : L.length ≤ 1000000) : Ok (Ct L (a : Int) (b : Int)) (fun r => InR a b r.1) := by
 unfold Ct
 have wn : w64 ((b : Int) - (a : Int)) = ((b - a : Nat) : Int) := by
  rw [At (by omega) (by omega)]
  omega
 have wq : w64 (Int.tdiv ((b - a : Nat) : Int) 4) = (((b - a) / 4 : Nat) : Int) := by
  rw [Int.tdiv_eq_ediv_of_nonneg (by omega),At (by omega) (by omega)]
  omega
 rw [wn,wq]
 have hq : 3 ≤ (b - a) / 4 := by omega
 have hq2 : 4 * ((b - a) / 4) ≤ b - a := by omega
 generalize (b - a) / 4 = q at *
 have m1 : w64 ((a : Int) + w64 ((q : Int) * 1)) = ((a + q : Nat) : Int) := by
  rw [At (n := (q : Int) * 1) (by omega) (by omega),At (by omega) (by omega)]
  omega
 have m2 : w64 ((a : Int) + w64 ((q : Int) * 2)) = ((a + 2 * q : Nat) : Int) := by
  rw [At (n := (q : Int) * 2) (by omega) (by omega),At (by omega) (by omega)]
  omega
 have m3 : w64 ((a : Int) + w64 ((q : Int) * 3)) = ((a + 3 * q : Nat) : Int) := by
  rw [At (n := (q : Int) * 3) (by omega) (by omega),At (by omega) (by omega)]
  omega
 rw [m1,m2,m3]
 have hJ1 : ∀ y : Int × Int,InR a b y.2 → Ok (Ck y) (fun r => InR a b r.1) := by
  intro y hy
  unfold Ck
  exact Ok.ite (fun _ => Ok.ret hy) fun _ => Ok.ite (fun _ => Ok.ret hy) fun _ => Ok.ret hy
 have hJ2 : ∀ y : Int × Int × Int × Int,InR a b y.2.1 → InR a b y.2.2.1 → InR a b y.2.2.2 → Ok (Cj L y) (fun r => InR a b r.1) := by
  intro y h1 h2 h3
  unfold Cj
  exact Ok.bind (Aga hb h1 h2 h3 _) fun r hr => hJ1 _ hr
 refine Ok.ite (fun _ => ?_) fun c => ?_
 ·refine Ok.ite (fun c => ?_) fun _ => ?_
  ·have := of_decide_eq_true c
   refine Ok.bind (Aah (a := a) (b := b) (n := a + q) hb hl (by omega) (by omega) 0) fun r hr => ?_
   refine Ok.bind (Aah (a := a) (b := b) (n := a + 2 * q) hb hl (by omega) (by omega) _) fun s hs => ?_
   refine Ok.bind (Aah (a := a) (b := b) (n := a + 3 * q) hb hl (by omega) (by omega) _) fun t ht => ?_
   exact hJ2 _ hr hs ht
  ·exact hJ2 _ ⟨_,rfl,by omega,by omega⟩ ⟨_,rfl,by omega,by omega⟩ ⟨_,rfl,by omega,by omega⟩
 ·exact hJ1 _ ⟨_,rfl,by omega,by omega⟩
theorem AhR {L : List Int} {a b : Nat} (hab : a < b) (hb : b ≤ L.length) (hl : L.length ≤ 1000000) : Ok (Ek L (a : Int) (b : Int)) (fun M => RP a b L M) := by
 unfold Ek
 have wb : w64 ((b : Int) - 1) = ((b - 1 : Nat) : Int) := by
  rw [At (by omega) (by omega)]
  omega
 rw [wb]
 refine Ok.while (fun s => ∃ i j : Nat,s.2.1 = (i : Int) ∧ s.2.2 = (j : Int) ∧ a ≤ i ∧ j < b ∧ i ≤ j + 1 ∧ RP a b L s.1) (fun s => (s.2.2 + 1 - s.2.1).toNat) ⟨a,b - 1,rfl,rfl,Nat.le_refl _,by omega,by omega,.refl _ _ _⟩ (by rw [Cs]; simp only; omega) ?_
 rintro ⟨M,x,y⟩ n ⟨i,j,hx,hy,h1,h2,h3,rp⟩ hn
 simp only at hx hy rp
 subst hx hy
 have hM := rp.len
 have ei : Int.toNat (i : Int) = i := by omega
 have ej : Int.toNat (j : Int) = j := by omega
 unfold Hs
 simp only
 rw [ei,ej]
 refine Ok.ite (fun c => ?_) fun _ => Ok.ret rp
 have c := of_decide_eq_true c
 have w1 : w64 ((i : Int) + 1) = ((i + 1 : Nat) : Int) := by
  rw [At (by omega) (by omega)]
  omega
 have w2 : w64 ((j : Int) - 1) = ((j - 1 : Nat) : Int) := by
  rw [At (by omega) (by omega)]
  omega
 rw [w1,w2]
 refine Ok.guard (by omega) (Ok.guard (by omega) (Ok.guard (by omega) (Ok.guard (by omega) (Ok.guard (by omega) (Ok.guard (by omega) (Ok.guard (by omega) (Ok.guard (by omega) ?_)))))))
 exact hn (Dw M i j,_,_) ⟨i + 1,j - 1,rfl,rfl,by omega,by omega,by omega,rp.trans (RP.swap (by omega) (by omega) (by omega) (by omega) (by omega))⟩ (by simp only; omega)
theorem break_ok {L : List Int} {a b : Nat} (hab : a + 12 < b) (hb : b ≤ L.length) (hl : L.length ≤ 1000) : Ok (Ec L (a : Int) (b : Int)) (fun M => RP a b L M) := by
 unfold Ec
 have wn : w64 ((b : Int) - (a : Int)) = ((b - a : Nat) : Int) := by
  rw [At (by omega) (by omega)]
  omega
 rw [wn]
 refine Ok.ite (fun _ => ?_) fun _ => Ok.ret (.refl _ _ _)
 refine Ok.bind (pow2_ok (n := b - a) (by omega) (by omega)) fun k ⟨k1,k2,k3⟩ => ?_
 have wq : w64 (Int.tdiv ((b - a : Nat) : Int) 4) = (((b - a) / 4 : Nat) : Int) := by
  rw [Int.tdiv_eq_ediv_of_nonneg (by omega),At (by omega) (by omega)]
  omega
 rw [wq]
 have hq : 3 ≤ (b - a) / 4 := by omega
 have hq2 : 4 * ((b - a) / 4) ≤ b - a := by omega
 generalize hqd : (b - a) / 4 = q at *
 have m2 : w64 ((a : Int) + w64 ((q : Int) * 2)) = ((a + 2 * q : Nat) : Int) := by
  rw [At (n := (q : Int) * 2) (by omega) (by omega),At (by omega) (by omega)]
  omega
 have m3 : w64 (((a + 2 * q : Nat) : Int) - 1) = ((a + 2 * q - 1 : Nat) : Int) := by
  rw [At (by omega) (by omega)]
  omega
 have m4 : w64 (((a + 2 * q : Nat) : Int) + 1) = ((a + 2 * q + 1 : Nat) : Int) := by
  rw [At (by omega) (by omega)]
  omega
 rw [m2,m3]
 refine Ok.while (fun s => ∃ i : Nat,s.2.2 = (i : Int) ∧ a ≤ i ∧ i ≤ a + 2 * q + 2 ∧ RP a b L s.1) (fun s => ((a + 2 * q + 2 : Nat) : Int).toNat - s.2.2.toNat) ⟨a + 2 * q - 1,rfl,by omega,by omega,.refl _ _ _⟩ (by rw [Cs]; simp only; omega) ?_
 rintro ⟨M,r,x⟩ n ⟨i,hx,i1,i2,rp⟩ hn
 simp only at hx rp
 subst hx
 have hM := rp.len
 have ei : Int.toNat (i : Int) = i := by omega
 unfold Hk
 simp only
 rw [wn,wq,m2,m4]
 refine Ok.ite (fun c => ?_) fun _ => Ok.ret rp
 have c := of_decide_eq_true c
 unfold Ki
 refine Ok.step rfl ?_
 simp only
 rw [k3]
 have hkl := kand_le (x := (kxor .u64 (kxor .u64 (kxor .u64 r (kshl .u64 r 13)) (kshr .u64 (kxor .u64 r (kshl .u64 r 13)) 7)) (kshl .u64 (kxor .u64 (kxor .u64 r (kshl .u64 r 13)) (kshr .u64 (kxor .u64 r (kshl .u64 r 13)) 7)) 17))) (y := k - 1) (by omega) (by omega)
 generalize kand .u64 (kxor .u64 (kxor .u64 (kxor .u64 r (kshl .u64 r 13)) (kshr .u64 (kxor .u64 r (kshl .u64 r 13)) 7)) (kshl .u64 (kxor .u64 (kxor .u64 r (kshl .u64 r 13)) (kshr .u64 (kxor .u64 r (kshl .u64 r 13)) 7)) 17)) (k - 1) = z at *
 generalize kxor .u64 (kxor .u64 (kxor .u64 r (kshl .u64 r 13)) (kshr .u64 (kxor .u64 r (kshl .u64 r 13)) 7)) (kshl .u64 (kxor .u64 (kxor .u64 r (kshl .u64 r 13)) (kshr .u64 (kxor .u64 r (kshl .u64 r 13)) 7)) 17) = r'
 have hJ : ∀ o : Nat,o < b - a → Ok (Cv (a : Int) (M,r,(i : Int)) n (r',r') (o : Int)) (fun M => RP a b L M) := by
  intro o ho
  unfold Cv
  simp only
  have e1 : w64 ((a : Int) + (o : Int)) = ((a + o : Nat) : Int) := by
   rw [At (by omega) (by omega)]
   omega
  have e2 : Int.toNat ((a + o : Nat) : Int) = a + o := by omega
  have e3 : w64 ((i : Int) + 1) = ((i + 1 : Nat) : Int) := by
   rw [At (by omega) (by omega)]
   omega
  rw [e1,e2,e3,ei]
  refine Ok.guard (by omega) (Ok.guard (by omega) (Ok.guard (by omega) (Ok.guard (by omega) (Ok.guard (by omega) (Ok.guard (by omega) (Ok.guard (by omega) (Ok.guard (by omega) ?_)))))))
  exact hn (Dw M i (a + o),_,_) ⟨i + 1,rfl,by omega,by omega,rp.trans (RP.swap (by omega) (by omega) (by omega) (by omega) (by omega))⟩ (by simp only; omega)
 have hz : w64 z = z := At (by omega) (by omega)
 rw [hz]
 refine Ok.ite (fun c2 => ?_) fun c2 => ?_
 ·have c2 := of_decide_eq_true c2
  have e : w64 (z - ((b - a : Nat) : Int)) = ((z - ((b - a : Nat) : Int)).toNat : Int) := by
   rw [At (by omega) (by omega)]
   omega
  rw [e]
  exact hJ _ (by omega)
 ·have c2 := of_decide_eq_false c2
  have e : z = ((z.toNat : Nat) : Int) := by omega
  rw [e]
  exact hJ _ (by omega)
def lowR (a b : Nat) (L : List Int) : Prop := 0 < a → ∀ k,a ≤ k → k < b → L.getD (a - 1) 0 ≤ L.getD k 0
theorem lowR.rp {a b : Nat} {L M : List Int} (h : lowR a b L) (r : RP a b L M) : lowR a b M := by
 intro h0 k k1 k2
 rw [r.out (a - 1) (by omega)]
 exact r.all (P := fun z => L.getD (a - 1) 0 ≤ z) (fun i i1 i2 => h h0 i i1 i2) k k1 k2
theorem AhD {L : List Int} {a b : Nat} (hab : a + 12 < b) (hb : b ≤ L.length) (hl : L.length ≤ 1000000) (hlow0 : lowR a b L) :
  Ok (Bz L (a : Int) (b : Int)) (fun r => RP a b L r.2 ∧ (r.1 = true → Gh a b r.2)) := by
 unfold Bz
 have e1 : w64 ((a : Int) + 1) = ((a + 1 : Nat) : Int) := by
  rw [At (by omega) (by omega)]
  omega
 rw [e1]
 refine Ok.for (fun _ s => ∃ i : Nat,s.2 = (i : Int) ∧ a + 1 ≤ i ∧ i ≤ b ∧ RP a b L s.1 ∧ Gh a i s.1) ⟨a + 1,rfl,Nat.le_refl _,by omega,.refl _ _ _,fun p q h1 h2 h3 => by omega⟩ ?_ ?_
 ·rintro j ⟨M,x⟩ n hj ⟨i0,hx,i01,i02,rp,hs0⟩ hn
  simp only at hx rp hs0
  subst hx
  have hM := rp.len
  unfold Dn
  simp only
  refine Ok.while (fun q => ∃ i : Nat,q = (i : Int) ∧ a + 1 ≤ i ∧ i ≤ b ∧ Gh a i M) (fun q => b - q.toNat) ⟨i0,rfl,i01,i02,hs0⟩ (by rw [Cs]; omega) ?_
  clear hs0
  rintro q nn ⟨i,rfl,h1,h2,hs⟩ hnn
  have hw : w64 ((i : Int) - 1) = ((i - 1 : Nat) : Int) := by
   rw [At (by omega) (by omega)]
   omega
  have ei : Int.toNat (i : Int) = i := by omega
  have ei1 : Int.toNat ((i - 1 : Nat) : Int) = i - 1 := by omega
  have stop : (i = b ∨ (i < b ∧ M.getD i 0 < M.getD (i - 1) 0)) → Ok (Bn (a : Int) (b : Int) (M,(i0 : Int)) n (i : Int) nn false) (fun r => RP a b L r.2 ∧ (r.1 = true → Gh a b r.2)) := by
   intro hstop
   unfold Bn
   simp only [Bool.false_eq_true,if_false]
   refine Ok.ite (fun c => ?_) fun c => ?_
   ·have c : (i : Int) = (b : Int) := by simpa using c
    have : i = b := by omega
    subst this
    exact Ok.ret ⟨rp,fun _ => hs⟩
   have c : ¬ (i : Int) = (b : Int) := by simpa using c
   have hib : i < b := by omega
   have hlt : M.getD i 0 < M.getD (i - 1) 0 := by
    rcases hstop with h | h
    ·omega
    ·exact h.2
   refine Ok.ite (fun _ => Ok.ret ⟨rp,fun e => by simp at e⟩) fun _ => ?_
   rw [hw,ei,ei1]
   refine Ok.guard (by omega) (Ok.guard (by omega) (Ok.guard (by omega) (Ok.guard (by omega) (Ok.guard (by omega) (Ok.guard (by omega) (Ok.guard (by omega) (Ok.guard (by omega) ?_)))))))
   have hS : (M.set i (M.getD (i - 1) 0)).set (i - 1) (M.getD i 0) = Dw M i (i - 1) := rfl
   rw [hS]
   have hg : ∀ r,(Dw M i (i - 1)).getD r 0 = if r = i - 1 then M.getD i 0 else if r = i then M.getD (i - 1) 0 else M.getD r 0 := fun r => Hy (by omega) (by omega)
   have rps : RP a b M (Dw M i (i - 1)) := RP.swap (by omega) (by omega) (by omega) (by omega) (by omega)
   generalize Dw M i (i - 1) = S at *
   have hJ15 : ∀ N : List Int,RP a b L N → Gh a i N → Ok (Bm (b : Int) n (i : Int) N) (fun r => RP a b L r.2 ∧ (r.1 = true → Gh a b r.2)) := by
    intro N rN hsN
    have hN := rN.len
    have done : ∀ K : List Int,RP a b L K → Gh a i K → Ok (Bs n (K,(i : Int))) (fun r => RP a b L r.2 ∧ (r.1 = true → Gh a b r.2)) := by
     intro K rK hK
     unfold Bs
     exact hn _ ⟨i,rfl,h1,h2,rK,hK⟩
    unfold Bm
    refine Ok.ite (fun _ => ?_) fun _ => done N rN hsN
    have w1 : w64 ((i : Int) + 1) = ((i + 1 : Nat) : Int) := by
     rw [At (by omega) (by omega)]
     omega
    rw [w1]
    refine Ok.guard (by omega) ?_
    rw [show Int.toNat ((b : Int) - ((i + 1 : Nat) : Int)) = b - (i + 1) by omega]
    refine Ok.for (fun _ K => RP a b L K ∧ Gh a i K) ⟨rN,hsN⟩ ?_ fun K ⟨rK,hK⟩ => done K rK hK
    intro t K nk ht ⟨rK,hK⟩ hnk
    have hKl := rK.len
    have et : ((i + 1 : Nat) : Int) + (t : Int) = ((i + 1 + t : Nat) : Int) := by omega
    have et1 : w64 (((i + 1 + t : Nat) : Int) - 1) = ((i + t : Nat) : Int) := by
     rw [At (by omega) (by omega)]
     omega
    have et2 : Int.toNat ((i + 1 + t : Nat) : Int) = i + 1 + t := by omega
    have et3 : Int.toNat ((i + t : Nat) : Int) = i + t := by omega
    rw [et]
    unfold Fq
    rw [et1,et2,et3]
    refine Ok.guard (by omega) (Ok.guard (by omega) (Ok.guard (by omega) (Ok.guard (by omega) ?_)))
    refine Ok.step (Hw _ _) ?_
    refine Ok.ite (fun _ => done K rK hK) fun _ => ?_
    refine Ok.guard (by omega) (Ok.guard (by omega) (Ok.guard (by omega) (Ok.guard (by omega) (Ok.guard (by omega) (Ok.guard (by omega) (Ok.guard (by omega) (Ok.guard (by omega) ?_)))))))
    refine hnk (Dw K (i + 1 + t) (i + t)) ⟨rK.trans (RP.swap (by omega) (by omega) (by omega) (by omega) (by omega)),fun p q p1 p2 p3 => ?_⟩
    rw [Hy (by omega) (by omega),Hy (by omega) (by omega),if_neg (by omega),if_neg (by omega),if_neg (by omega),if_neg (by omega)]
    exact hK p q p1 p2 p3
   have rS := rp.trans rps
   have hSl := rS.len
   refine Ok.ite (fun _ => ?_) fun c5 => ?_
   ·refine Ok.while (fun q => ∃ k : Nat,q.2 = (k : Int) ∧ a ≤ k ∧ k + 1 ≤ i ∧ RP a b L q.1 ∧ (∀ p r,a ≤ p → p < r → r < i → p ≠ k → r ≠ k → q.1.getD p 0 ≤ q.1.getD r 0) ∧ (∀ r,k < r → r < i → q.1.getD k 0 ≤ q.1.getD r 0)) (fun q => q.2.toNat) ?_ (by rw [Cs]; simp only; omega) ?_
    ·refine ⟨i - 1,rfl,by omega,by omega,rS,fun p r p1 p2 p3 p4 p5 => ?_,fun r r1 r2 => by omega⟩
     simp only
     rw [hg,hg,if_neg p4,if_neg p5,if_neg (by omega),if_neg (by omega)]
     exact hs p r p1 p2 p3
    ·rintro ⟨K,y⟩ n3 ⟨k,hy,k1,k2,rK,hA,hB⟩ hn3
     simp only at hy rK hA hB
     subst hy
     have hKl := rK.len
     have fin : (k = a ∨ ¬ K.getD k 0 < K.getD (k - 1) 0) → Ok (Bm (b : Int) n (i : Int) K) (fun r => RP a b L r.2 ∧ (r.1 = true → Gh a b r.2)) := by
      intro hstop
      refine hJ15 K rK fun p q p1 p2 p3 => ?_
      by_cases hp : p = k
      ·subst hp
       exact hB q p2 p3
      by_cases hq : q = k
      ·subst hq
       rcases hstop with h | h
       ·omega
       ·by_cases hp2 : p = q - 1
        ·subst hp2
         omega
        ·have := hA p (q - 1) p1 (by omega) (by omega) hp (by omega)
         omega
      exact hA p q p1 p2 p3 hp hq
     have ek : Int.toNat (k : Int) = k := by omega
     unfold Fr
     simp only
     refine Ok.ite (fun c6 => ?_) fun c6 => ?_
     ·have c6 := of_decide_eq_true c6
      have wk : w64 ((k : Int) - 1) = ((k - 1 : Nat) : Int) := by
       rw [At (by omega) (by omega)]
       omega
      have ek1 : Int.toNat ((k - 1 : Nat) : Int) = k - 1 := by omega
      rw [wk,ek,ek1]
      refine Ok.guard (by omega) (Ok.guard (by omega) (Ok.guard (by omega) (Ok.guard (by omega) ?_)))
      refine Ok.step (Hw _ _) ?_
      refine Ok.ite (fun c7 => fin (.inr (by simpa using c7))) fun c7 => ?_
      have c7 : K.getD k 0 < K.getD (k - 1) 0 := by
       rw [Bool.not_eq_false'] at c7
       exact of_decide_eq_true c7
      have hka : a < k := by
       by_cases e : k = a
       ·exfalso
        subst e
        have h3 := hlow0.rp rK (by omega) k (Nat.le_refl _) (by omega)
        omega
       ·omega
      refine Ok.guard (by omega) (Ok.guard (by omega) (Ok.guard (by omega) (Ok.guard (by omega) (Ok.guard (by omega) (Ok.guard (by omega) (Ok.guard (by omega) (Ok.guard (by omega) ?_)))))))
      have hgk : ∀ r,(Dw K k (k - 1)).getD r 0 = if r = k - 1 then K.getD k 0 else if r = k then K.getD (k - 1) 0 else K.getD r 0 := fun r => Hy (by omega) (by omega)
      refine hn3 (Dw K k (k - 1),((k - 1 : Nat) : Int)) ⟨k - 1,rfl,by omega,by omega,rK.trans (RP.swap (by omega) (by omega) (by omega) (by omega) (by omega)),?_,?_⟩ (by simp only; omega)
      ·intro p r p1 p2 p3 p4 p5
       simp only
       rw [hgk,hgk,if_neg p4,if_neg p5]
       by_cases hp : p = k
       ·rw [if_pos hp,if_neg (by omega)]
        exact hA (k - 1) r (by omega) (by omega) p3 (by omega) (by omega)
       ·rw [if_neg hp]
        by_cases hr : r = k
        ·rw [if_pos hr]
         exact hA p (k - 1) p1 (by omega) (by omega) hp (by omega)
        ·rw [if_neg hr]
         exact hA p r p1 p2 p3 hp hr
      ·intro r r1 r2
       simp only
       rw [hgk,hgk,if_pos rfl,if_neg (by omega)]
       by_cases hr : r = k
       ·rw [if_pos hr]
        omega
       ·rw [if_neg hr]
        exact hB r (by omega) r2
     ·have c6 := of_decide_eq_false c6
      exact fin (.inl (by omega))
   ·have c5 := of_decide_eq_false c5
    rw [At (by omega) (by omega)] at c5
    exact hJ15 S rS fun p q p1 p2 p3 => by omega
  unfold Dl
  simp only
  refine Ok.ite (fun c => ?_) fun c => ?_
  ·have c := of_decide_eq_true c
   rw [hw,ei,ei1]
   refine Ok.guard (by omega) (Ok.guard (by omega) (Ok.guard (by omega) (Ok.guard (by omega) ?_)))
   refine Ok.step (Hw _ _) ?_
   cases hlt : decide (M.getD i 0 < M.getD (i - 1) 0) with
   | true => exact stop (.inr ⟨by omega,of_decide_eq_true hlt⟩)
   | false =>
    have hlt := of_decide_eq_false hlt
    unfold Bn
    have w1 : w64 ((i : Int) + 1) = ((i + 1 : Nat) : Int) := by
     rw [At (by omega) (by omega)]
     omega
    simp only [Bool.not_false,if_true]
    rw [w1]
    refine hnn _ ⟨i + 1,rfl,by omega,by omega,fun p q p1 p2 p3 => ?_⟩ (by omega)
    by_cases e : q = i
    ·subst e
     by_cases e2 : p = q - 1
     ·subst e2
      omega
     ·have := hs p (q - 1) p1 (by omega) (by omega)
      omega
    ·exact hs p q p1 p2 (by omega)
  ·have c := of_decide_eq_false c
   exact stop (.inl (by omega))
 ·rintro ⟨M,x⟩ ⟨i,_,_,_,rp,_⟩
  exact Ok.ret ⟨rp,fun e => by simp at e⟩
def outR (a b c d : Nat) (L : List Int) : Prop := ∀ p q,a ≤ p → p < q → q < b → ¬ (c ≤ p ∧ q < d) → L.getD p 0 ≤ L.getD q 0
theorem outR.rp {a b c d : Nat} {L M : List Int} (h : outR a b c d L) (hc : a ≤ c) (hd : d ≤ b) (r : RP c d L M) : outR a b c d M := by
 intro p q p1 p2 p3 p4
 by_cases hp : c ≤ p ∧ p < d
 ·have hq : d ≤ q := by omega
  rw [r.out q (.inr hq)]
  exact r.all (P := fun z => z ≤ L.getD q 0) (fun i i1 i2 => h i q (by omega) (by omega) p3 (by omega)) p hp.1 hp.2
 ·rw [r.out p (by omega)]
  by_cases hq : c ≤ q ∧ q < d
  ·exact r.all (P := fun z => L.getD p 0 ≤ z) (fun i i1 i2 => h p i p1 (by omega) (by omega) (by omega)) q hq.1 hq.2
  ·rw [r.out q (by omega)]
   exact h p q p1 p2 p3 p4
theorem pdq_F : ∀ (fuel : Nat) {L : List Int} {a b : Nat} (lim : Int),b - a < fuel → a ≤ b → b ≤ L.length → L.length ≤ 1000 → lowR a b L → Ok (Bi fuel L (a : Int) (b : Int) lim) (fun M => RP a b L M ∧ Gh a b M) := by
 intro fuel
 induction fuel with
 | zero => intro L a b lim h; omega
 | succ fuel ih =>
  intro L a b lim hf hab hb hl hlow
  rw [Bi]
  unfold Eg
  refine Ok.while (fun s => ∃ c d : Nat,s.2.1 = (c : Int) ∧ s.2.2.1 = (d : Int) ∧ a ≤ c ∧ c ≤ d ∧ d ≤ b ∧ RP a b L s.1 ∧ outR a b c d s.1) (fun s => (s.2.2.1 - s.2.1).toNat) ⟨a,b,rfl,rfl,Nat.le_refl _,hab,Nat.le_refl _,.refl _ _ _,fun p q h1 h2 h3 h4 => by omega⟩ (by rw [Cs]; simp only; omega) ?_
  rintro ⟨M,x,y,lm,wb,wp⟩ n ⟨c,d,hx,hy,c1,c2,c3,rp,ho⟩ hn
  simp only at hx hy rp ho
  subst hx hy
  have hM := rp.len
  have hlowc : lowR c d M := by
   intro h0 k k1 k2
   by_cases e : c = a
   ·subst e
    exact hlow.rp rp h0 k k1 (by omega)
   ·exact ho (c - 1) k (by omega) (by omega) (by omega) (by omega)
  have done : ∀ N,RP c d M N → Gh c d N → RP a b L N ∧ Gh a b N := by
   intro N rN hs
   refine ⟨rp.trans (rN.widen c1 c3),fun p q p1 p2 p3 => ?_⟩
   by_cases e : c ≤ p ∧ q < d
   ·exact hs p q e.1 p2 e.2
   ·exact ho.rp c1 c3 rN p q p1 p2 p3 e
  have wn : w64 ((d : Int) - (c : Int)) = ((d - c : Nat) : Int) := by
   rw [At (by omega) (by omega)]
   omega
  unfold Hg
  simp only
  rw [wn]
  refine Ok.ite (fun _ => ?_) fun cc => ?_
  ·refine Ok.bind (AgS c2 (by omega) (by omega)) fun N ⟨rN,hs⟩ => ?_
   exact Ok.guard rN.len.symm (Ok.ret (done N rN hs))
  have cc := of_decide_eq_false cc
  have hcd : c + 12 < d := by omega
  refine Ok.ite (fun _ => ?_) fun _ => ?_
  ·refine Ok.bind (Ahv (by omega) (by omega) (by omega)) fun N ⟨rN,hs⟩ => ?_
   exact Ok.guard rN.len.symm (Ok.ret (done N rN hs))
  have hJ8 : ∀ (N : List Int) (l2 : Int),RP c d M N → Ok (De (Bi fuel) (M,(c : Int),(d : Int),lm,wb,wp) n (N,l2)) (fun M => RP a b L M ∧ Gh a b M) := by
   intro N l2 rN
   have hN := rN.len
   have hJ9 : ∀ (K : List Int) (pv hint : Int),RP c d M K → InR c d pv → Ok (Dc (Bi fuel) (M,(c : Int),(d : Int),lm,wb,wp) n (N,l2) (K,pv,hint)) (fun M => RP a b L M ∧ Gh a b M) := by
    intro K pv hint rK hpv
    have hK := rK.len
    have hJ10 : ∀ U : List Int,RP c d M U → Ok (Du (Bi fuel) (M,(c : Int),(d : Int),lm,wb,wp) n (N,l2) (K,pv,hint) U) (fun M => RP a b L M ∧ Gh a b M) := by
     intro U rU
     have hU := rU.len
     obtain ⟨p,rfl,p1,p2⟩ := hpv
     have hlowU := hlowc.rp rU
     have hJ11 : ∀ e : Bool,(e = true → 0 < c ∧ ¬ U.getD (c - 1) 0 < U.getD p 0) → Ok (Dv (Bi fuel) (M,(c : Int),(d : Int),lm,wb,wp) n (N,l2) (K,(p : Int),hint) U e) (fun M => RP a b L M ∧ Gh a b M) := by
      intro e he
      unfold Dv
      simp only
      refine Ok.ite (fun ce => ?_) fun _ => ?_
      ·-- many equal ones
       obtain ⟨hc0,hle⟩ := he ce
       refine Ok.bind (Adh (by omega) (by omega) (by omega) p1 p2) fun r ⟨m,hr,m1,m2,rr,hlo,hhi⟩ => ?_
       refine Ok.guard rr.len.symm ?_
       have rMr := rU.trans rr
       rw [hr]
       refine hn _ ⟨m,d,rfl,rfl,by omega,by omega,c3,rp.trans (rMr.widen c1 c3),?_⟩ (by simp only; omega)
       have hor := ho.rp c1 c3 rMr
       have hlowr := hlowU.rp rr
       intro u v u1 u2 u3 u4
       simp only
       by_cases hin : c ≤ u ∧ v < d
       ·have hu : u < m := by omega
        have h1 := hlo u hin.1 hu
        by_cases hv : v < m
        ·have h2 := hlowr hc0 v (by omega) (by omega)
         rw [rr.out (c - 1) (by omega)] at h2
         omega
        ·have h2 := hhi v (by omega) hin.2
         omega
       ·exact hor u v u1 u2 u3 hin
      ·refine Ok.bind (AgI (by omega) (by omega) (by omega) p1 p2) fun r ⟨m,hr,m1,m2,rr,hlo,hhi⟩ => ?_
       have rMr := rU.trans rr
       have hrl := rMr.len
       refine Ok.guard rr.len.symm ?_
       have hor := ho.rp c1 c3 rMr
       have hlowr := hlowU.rp rr
       rw [hr]
       have w1 : w64 ((m : Int) + 1) = ((m + 1 : Nat) : Int) := by
        rw [At (by omega) (by omega)]
        omega
       refine Ok.ite (fun _ => ?_) fun _ => ?_
       ·-- the left part first
        refine Ok.bind (ih (L := r.2.2) (a := c) (b := m) l2 (by omega) m1 (by omega) (by omega) (fun h0 k k1 k2 => hlowr h0 k k1 (by omega))) fun S ⟨rS,hs⟩ => ?_
        refine Ok.guard rS.len.symm ?_
        rw [w1]
        refine hn _ ⟨m + 1,d,rfl,rfl,by omega,by omega,c3,rp.trans ((rMr.trans (rS.widen (Nat.le_refl _) (by omega))).widen c1 c3),?_⟩ (by simp only; omega)
        have horS := hor.rp c1 c3 (rS.widen (Nat.le_refl _) (by omega))
        intro u v u1 u2 u3 u4
        simp only
        by_cases hin : c ≤ u ∧ v < d
        ·have hum : u ≤ m := by omega
         have hSm : ∀ k,m ≤ k → S.getD k 0 = r.2.2.getD k 0 := fun k hk => rS.out k (.inr hk)
         have hSlo : ∀ k,c ≤ k → k < m → S.getD k 0 ≤ r.2.2.getD m 0 := fun k k1 k2 => rS.all (P := fun z => z ≤ r.2.2.getD m 0) (fun i i1 i2 => hlo i i1 i2) k k1 k2
         by_cases hv : v < m
         ·exact hs u v hin.1 u2 hv
         ·rw [hSm v (by omega)]
          have hvm : r.2.2.getD m 0 ≤ r.2.2.getD v 0 := by
           by_cases e2 : v = m
           ·rw [e2]
            exact Int.le_refl _
           ·exact hhi v (by omega) hin.2
          by_cases e3 : u = m
          ·rw [e3,hSm m (Nat.le_refl _)]
           exact hvm
          ·have := hSlo u hin.1 (by omega)
           omega
        ·exact horS u v u1 u2 u3 hin
       ·-- the right part first
        rw [w1]
        refine Ok.bind (ih (L := r.2.2) (a := m + 1) (b := d) l2 (by omega) (by omega) (by omega) (by omega) (fun h0 k k1 k2 => by
         have := hhi k (by omega) k2
         simpa using this)) fun S ⟨rS,hs⟩ => ?_
        refine Ok.guard rS.len.symm ?_
        refine hn _ ⟨c,m,rfl,rfl,c1,m1,by omega,rp.trans ((rMr.trans (rS.widen (by omega) (Nat.le_refl _))).widen c1 c3),?_⟩ (by simp only; omega)
        have horS := hor.rp c1 c3 (rS.widen (by omega) (Nat.le_refl _))
        intro u v u1 u2 u3 u4
        simp only
        by_cases hin : c ≤ u ∧ v < d
        ·have hSm : ∀ k,k ≤ m → S.getD k 0 = r.2.2.getD k 0 := fun k hk => rS.out k (.inl (by omega))
         have hShi : ∀ k,m < k → k < d → r.2.2.getD m 0 ≤ S.getD k 0 := fun k k1 k2 => rS.all (P := fun z => r.2.2.getD m 0 ≤ z) (fun i i1 i2 => hhi i (by omega) i2) k (by omega) k2
         by_cases hu : m < u
         ·exact hs u v (by omega) u2 hin.2
         ·rw [hSm u (by omega)]
          have hum : r.2.2.getD u 0 ≤ r.2.2.getD m 0 := by
           by_cases e2 : u = m
           ·rw [e2]
            exact Int.le_refl _
           ·exact hlo u hin.1 (by omega)
          by_cases e3 : v = m
          ·rw [e3,hSm m (Nat.le_refl _)]
           exact hum
          ·have := hShi v (by omega) hin.2
           omega
        ·exact horS u v u1 u2 u3 hin
     unfold Du
     simp only
     refine Ok.ite (fun ce => ?_) fun _ => hJ11 false fun e => by simp at e
     have ce := of_decide_eq_true ce
     have wc : w64 ((c : Int) - 1) = ((c - 1 : Nat) : Int) := by
      rw [At (by omega) (by omega)]
      omega
     have ec : Int.toNat ((c - 1 : Nat) : Int) = c - 1 := by omega
     have ep : Int.toNat (p : Int) = p := by omega
     rw [wc,ec,ep]
     refine Ok.guard (by omega) (Ok.guard (by omega) (Ok.guard (by omega) (Ok.guard (by omega) ?_)))
     refine Ok.step (Hw _ _) (hJ11 _ fun e => ⟨by omega,?_⟩)
     simpa using e
    unfold Dc
    simp only
    refine Ok.ite (fun _ => ?_) fun _ => hJ10 K rK
    refine Ok.bind (AhD hcd (by omega) (by omega) (hlowc.rp rK)) fun r ⟨rr,hs⟩ => ?_
    refine Ok.guard rr.len.symm ?_
    exact Ok.ite (fun e => Ok.ret (done _ (rK.trans rr) (hs e))) fun _ => hJ10 _ (rK.trans rr)
   unfold De
   simp only
   refine Ok.bind (AfF hcd (by omega) (by omega)) fun r hr => ?_
   refine Ok.ite (fun _ => ?_) fun _ => hJ9 N r.1 r.2 rN hr
   refine Ok.bind (AhR (by omega) (by omega) (by omega)) fun K rK => ?_
   refine Ok.guard rK.len.symm (hJ9 _ _ _ (rN.trans rK) ?_)
   obtain ⟨p,hp,p1,p2⟩ := hr
   rw [hp,At (n := (d : Int) - 1) (by omega) (by omega),At (n := (p : Int) - (c : Int)) (by omega) (by omega),At (by omega) (by omega)]
   exact ⟨d - 1 - (p - c),by omega,by omega,by omega⟩
  refine Ok.ite (fun _ => ?_) fun _ => hJ8 M _ (.refl _ _ _)
  refine Ok.bind (break_ok hcd (by omega) (by omega)) fun N rN => ?_
  exact Ok.guard rN.len.symm (hJ8 _ _ rN)
theorem Sort_ok (L : List Int) (hl : L.length ≤ 1000) : Ok (Fm L) (fun M => M.Perm L ∧ M.Pairwise (· ≤ ·)) := by
 unfold Fm
 refine Ok.bind (Ack hl) fun k _ => ?_
 unfold Ib
 have h := pdq_F Ea (L := L) (a := 0) (b := L.length) k (by rw [Cs]; omega) (by omega) (Nat.le_refl _) hl (fun h => by omega)
 refine Ok.bind h fun M ⟨rp,hs⟩ => Ok.guard rp.len.symm (Ok.ret ⟨rp.perm,?_⟩)
 rw [List.pairwise_iff_getElem]
 intro i j hi hj hij
 have := hs i j (by omega) hij (by have := rp.len; omega)
 rw [Im hi,Im hj] at this
 exact this
end Go.Dm

/- Plain theory, part 15: counts. -/
namespace Go.Dm
end Go.Dm

/- Plain theory, part 16: made counts. -/
namespace Go.Dm
end Go.Dm

/- Plain theory, part 17: room and refusals. -/
namespace Go.Dm
end Go.Dm

/- Plain theory, part 18: sums of counts. -/
namespace Go.Dm
end Go.Dm

/- Plain theory, part 19: charges, limits; the document's functions on counts. -/
namespace Go.Dm
end Go.Dm

/- Plain theory, part 21: what changes leave as it is; sizes of made hierarchies. -/
namespace Go.Dm
end Go.Dm

/- Plain theory, part 22: the program's changes of hierarchies are the document's. -/
namespace Go.Dm
theorem AgF {α : Type} {L : List α} {a n : Nat} {x : α} (h : a + n ≤ L.length) : (Lw L a n x).length = L.length := by
 simp only [Lw,List.length_append,List.length_take,List.length_replicate,List.length_drop]
 omega
theorem AeN {α : Type} {L : List α} {a n : Nat} {x : α} (h : a ≤ L.length) : (Lw L a n x).take a = L.take a := by
 unfold Lw
 rw [List.take_append_of_le_length (by rw [List.length_take]; omega),List.take_take,Nat.min_self]
theorem AgG {α : Type} {L M : List α} {a n : Nat} (h : a + n ≤ L.length) (hm : n ≤ M.length) : (Ml L a n M).length = L.length := by
 simp only [Ml,List.length_append,List.length_take,List.length_drop]
 omega
theorem Aae (c : Aj) : AaP c c = true := by simp [AaP]
theorem AhC (c : Af) : AeV c c = true := by simp [AeV,AbS]
theorem Aft (t : Ae) (hl : t.nodes.length ≤ 1000000) : Vb t t = some true := by
 apply Ok.eq
 unfold Vb
 refine Ok.ite (fun c => by simp at c) fun _ => ?_
 refine Ok.guard (by omega) ?_
 refine Ok.range (fun _ _ => True) trivial ?_ fun _ _ => Ok.ret rfl
 intro pre x post _ n he _ hn
 have hp : pre.length < t.nodes.length := by rw [he]; simp
 have hx : t.nodes.getD pre.length default = x := by rw [he]; exact Yp
 unfold Aaz
 refine Ok.guard hp ?_
 rw [hx,AhC]
 exact hn () trivial
theorem AfJ (h : Aa) (hl : h.tree.nodes.length ≤ 1000000) (h2 : h.tasks.length ≤ 1000000) : Vc h h = some true := by
 apply Ok.eq
 unfold Vc
 refine Ok.step (Aft h.tree hl) ?_
 unfold Ou
 refine Ok.ite (fun c => by simp at c) fun _ => ?_
 refine Ok.ite (fun c => by simp at c) fun _ => ?_
 refine Ok.ite (fun c => by simp at c) fun _ => ?_
 refine Ok.guard (by omega) ?_
 refine Ok.range (fun _ _ => True) trivial ?_ fun _ _ => Ok.ret rfl
 intro pre x post _ n he _ hn
 have hp : pre.length < h.tasks.length := by rw [he]; simp
 have hx : h.tasks.getD pre.length default = x := by rw [he]; exact Yp
 unfold Aac
 refine Ok.guard hp ?_
 rw [hx,Aae]
 exact hn () trivial
theorem Ahh : Sa = some true := by kernel_rfl
end Go.Dm

/- Plain theory, part 23: spoiled hierarchies; hierarchies that are refused. -/
namespace Go.Dm
theorem Afw {α : Type} {l : List α} {i : Nat} {a x : α} (h : x ∈ l.set i a) : x = a ∨ x ∈ l := by
 rcases List.mem_or_eq_of_mem_set h with h | h
 ·exact .inr h
 ·exact .inl h
theorem Word_ok {d : Al} (h : Bv d) : Ok (Mv d) (fun r => Bv r.2 ∧ r.1.size ≤ 1000) := by
 unfold Mv
 refine Ok.bind (Fw h 12 (by omega) (by omega)) fun r ⟨h1,h2,h3⟩ => ?_
 generalize hL : [(bs [97]),(bs [98]),(bs [99]),(bs [119,101,98]),(bs [100,98,45,49]),(bs [88,95,57]),ByteArray.empty,(bs [45,97]),(bs [97,47,98]),(bs [195,169]),(bs [97,97,97,97,97,97,97,97,97,97,97,97,97,97,97,97,97,97,97,97,97,97,97,97,97,97,97,97,97,97,97,97]),(bs [97,97,97,97,97,97,97,97,97,97,97,97,97,97,97,97,97,97,97,97,97,97,97,97,97,97,97,97,97,97,97,97,97])] = L
 have hl : L.length = 12 := by rw [← hL]; rfl
 have hs : ∀ s ∈ L,s.size ≤ 1000 := by
  have : L.all (fun s => decide (s.size ≤ 1000)) = true := by rw [← hL]; decide +kernel
  intro s hs
  have := List.all_eq_true.mp this s hs
  simpa using this
 refine Ok.guard (by omega) (Ok.guard (by omega) (Ok.ret ⟨h1,?_⟩))
 exact hs _ (Tx (by omega))
theorem User_ok {d : Al} (h : Bv d) : Ok (Lc d) (fun r => Bv r.2) := by
 unfold Lc
 refine Ok.bind (Fw h 8 (by omega) (by omega)) fun r ⟨h1,h2,h3⟩ => ?_
 refine Ok.guard (by simp only [List.length_cons,List.length_nil]; omega) (Ok.guard (by simp only [List.length_cons,List.length_nil]; omega) (Ok.ret h1))
structure Qu (h : Aa) : Prop where
 nodes : h.tree.nodes.length ≤ 1000
 tasks : h.tasks.length ≤ 1000
 m : ∀ x ∈ h.tree.nodes,Wj x
theorem WfH.raw {h : Aa} (w : WfH h) : Qu h := ⟨by have := w.tree.len2; omega,by have := w.len; omega,w.tree.p.names⟩
theorem AeW {d : Al} (hd : Bv d) {h : Aa} (w : WfH h) : Ok (Eu d h) (fun r => Qu r.1 ∧ Bv r.2) := by
 have l1 := w.len
 have l2 := w.tree.len2
 have l3 := w.tree.len1
 have hm := w.tree.p.names
 unfold Eu
 refine Ok.step (Pu h (by omega) (by omega)) ?_
 refine Ok.bind (Fw hd _ (by omega) (by omega)) fun a ⟨ha1,ha2,ha3⟩ => Ok.guard ⟨ha2,ha3⟩ ?_
 have hi : a.1.toNat < h.tree.nodes.length := by omega
 refine Ok.bind (Ix ha1 12 (by omega)) fun b ⟨hb1,_⟩ => ?_
 have hJ : ∀ (e : Al) (n1 n2 : Int) (L : List Af),Bv e → L.length ≤ 65 → (∀ x ∈ L,Wj x) → Ok (Bf h (e,n1,n2,L)) (fun r => Qu r.1 ∧ Bv r.2) := by
  intro e n1 n2 L he hL hLm
  have hJ2 : ∀ (f : Al) (K : List Aj),Bv f → K.length ≤ 128 → Ok (Bx (e,n1,n2,L) (f,K)) (fun r => Qu r.1 ∧ Bv r.2) := by
   intro f K hf hK
   unfold Bx
   exact Ok.ret ⟨⟨by simp only; omega,by simp only; omega,hLm⟩,hf⟩
  unfold Bf
  simp only
  refine Ok.ite (fun c => ?_) fun _ => hJ2 _ _ he l1
  have c := of_decide_eq_true c
  refine Ok.bind (Fw he _ (by omega) (by omega)) fun u ⟨hu1,hu2,hu3⟩ => Ok.guard ⟨hu2,hu3⟩ ?_
  have hj : u.1.toNat < h.tasks.length := by omega
  refine Ok.bind (Ix hu1 8 (by omega)) fun v ⟨hv1,_⟩ => ?_
  refine Ok.ite (fun _ => ?_) fun _ => ?_
  ·exact Ok.bind (Ix hv1 9 (by omega)) fun z ⟨hz,_⟩ => Ok.guard hj (hJ2 _ _ hz (by rw [List.length_set]; exact l1))
  refine Ok.ite (fun _ => ?_) fun _ => ?_
  ·exact Ok.bind (Ix hv1 9 (by omega)) fun z ⟨hz,_⟩ => Ok.guard hj (hJ2 _ _ hz (by rw [List.length_set]; exact l1))
  refine Ok.ite (fun _ => ?_) fun _ => ?_
  ·exact Ok.bind (Ix hv1 9 (by omega)) fun z ⟨hz,_⟩ => Ok.guard hj (hJ2 _ _ hz (by rw [List.length_set]; exact l1))
  refine Ok.ite (fun _ => ?_) fun _ => ?_
  ·exact Ok.bind (User_ok hv1) fun z hz => Ok.guard hj (hJ2 _ _ hz (by rw [List.length_set]; exact l1))
  ·exact hJ2 _ _ hv1 l1
 have hset : ∀ (y : Af),Wj y → (h.tree.nodes.set a.1.toNat y).length ≤ 65 ∧ ∀ x ∈ h.tree.nodes.set a.1.toNat y,Wj x := by
  intro y hy
  refine ⟨by rw [List.length_set]; omega,fun x hx => ?_⟩
  rcases Afw hx with rfl | hx
  ·exact hy
  ·exact hm x hx
 have hx := hm _ (Tx (d := default) hi)
 refine Ok.ite (fun _ => ?_) fun _ => ?_
 ·refine Ok.bind (Ix hb1 9 (by omega)) fun z ⟨hz,_⟩ => Ok.guard hi ?_
  have q := hset { id := z.1,parent := (h.tree.nodes.getD a.1.toNat default).parent,name := (h.tree.nodes.getD a.1.toNat default).name,control := (h.tree.nodes.getD a.1.toNat default).control,kind := (h.tree.nodes.getD a.1.toNat default).kind,owner := (h.tree.nodes.getD a.1.toNat default).owner } hx
  exact hJ _ _ _ _ hz q.1 q.2
 refine Ok.ite (fun _ => ?_) fun _ => ?_
 ·refine Ok.bind (Ix hb1 9 (by omega)) fun z ⟨hz,_⟩ => Ok.guard hi ?_
  have q := hset { id := (h.tree.nodes.getD a.1.toNat default).id,parent := z.1,name := (h.tree.nodes.getD a.1.toNat default).name,control := (h.tree.nodes.getD a.1.toNat default).control,kind := (h.tree.nodes.getD a.1.toNat default).kind,owner := (h.tree.nodes.getD a.1.toNat default).owner } hx
  exact hJ _ _ _ _ hz q.1 q.2
 refine Ok.ite (fun _ => ?_) fun _ => ?_
 ·refine Ok.bind (Word_ok hb1) fun z ⟨hz,hs⟩ => Ok.guard hi ?_
  have q := hset { id := (h.tree.nodes.getD a.1.toNat default).id,parent := (h.tree.nodes.getD a.1.toNat default).parent,name := z.1,control := (h.tree.nodes.getD a.1.toNat default).control,kind := (h.tree.nodes.getD a.1.toNat default).kind,owner := (h.tree.nodes.getD a.1.toNat default).owner } ⟨by simp only; omega,hx.2⟩
  exact hJ _ _ _ _ hz q.1 q.2
 refine Ok.ite (fun _ => ?_) fun _ => ?_
 ·refine Ok.bind (AaT hb1) fun z ⟨hz,_,hs⟩ => Ok.guard hi ?_
  have q := hset { id := (h.tree.nodes.getD a.1.toNat default).id,parent := (h.tree.nodes.getD a.1.toNat default).parent,name := (h.tree.nodes.getD a.1.toNat default).name,control := z.1,kind := (h.tree.nodes.getD a.1.toNat default).kind,owner := (h.tree.nodes.getD a.1.toNat default).owner } ⟨hx.1,by simp only; omega⟩
  exact hJ _ _ _ _ hz q.1 q.2
 refine Ok.ite (fun _ => ?_) fun _ => ?_
 ·refine Ok.bind (Ix hb1 4 (by omega)) fun z ⟨hz,_⟩ => Ok.guard hi ?_
  have q := hset { id := (h.tree.nodes.getD a.1.toNat default).id,parent := (h.tree.nodes.getD a.1.toNat default).parent,name := (h.tree.nodes.getD a.1.toNat default).name,control := (h.tree.nodes.getD a.1.toNat default).control,kind := w64 (z.1 - 1),owner := (h.tree.nodes.getD a.1.toNat default).owner } hx
  exact hJ _ _ _ _ hz q.1 q.2
 refine Ok.ite (fun _ => ?_) fun _ => ?_
 ·refine Ok.bind (User_ok hb1) fun z hz => Ok.guard hi ?_
  have q := hset { id := (h.tree.nodes.getD a.1.toNat default).id,parent := (h.tree.nodes.getD a.1.toNat default).parent,name := (h.tree.nodes.getD a.1.toNat default).name,control := (h.tree.nodes.getD a.1.toNat default).control,kind := (h.tree.nodes.getD a.1.toNat default).kind,owner := z.1 } hx
  exact hJ _ _ _ _ hz q.1 q.2
 refine Ok.ite (fun _ => ?_) fun _ => ?_
 ·exact Ok.bind (Ix hb1 9 (by omega)) fun z ⟨hz,_⟩ => hJ _ _ _ _ hz (by omega) hm
 refine Ok.ite (fun _ => ?_) fun _ => ?_
 ·exact Ok.bind (Ix hb1 9 (by omega)) fun z ⟨hz,_⟩ => hJ _ _ _ _ hz (by omega) hm
 refine Ok.ite (fun _ => ?_) fun _ => ?_
 ·refine Ok.guard hi (Ok.guard (by omega) (hJ _ _ _ _ hb1 (by simp; omega) fun x hx' => ?_))
  rcases List.mem_append.mp hx' with h1 | h1
  ·exact hm x h1
  ·obtain rfl : x = _ := by simpa only [List.mem_singleton] using h1
   exact hx
 ·exact hJ _ _ _ _ hb1 (by omega) hm
theorem AaE {h : Aa} (r : Qu h) (w : ¬ WfH h) : Ga h = some false := by
 obtain ⟨b,hb,e⟩ := Zx h r.m
 cases b
 ·exact hb
 ·exact absurd (e.mp rfl) w
end Go.Dm

/- Plain theory, part 24: kinds of groups, domains, what fits. -/
namespace Go.Dm
theorem find6 {h : Aa} (w : WfH h) (id : Int) : Gt h id = some ((Gb h.tasks id).getD zK,(Gb h.tasks id).isSome) := by
 rw [Ow w]
 cases Gb h.tasks id <;> rfl
end Go.Dm

/- Plain theory, part 25: forks that are counted. -/
namespace Go.Dm
theorem Afq {h : Aa} (w : WfH h) (p : Int) : Lo h p = some (Yw h p) := by
 have := w.len
 unfold Lo
 rw [Hl w]
 simp only [Option.bind_some,Bool.not_true,Bool.false_eq_true,if_false]
 rw [if_pos (by omega)]
 refine (Ho (p := fun x : Aj => x.process == p) (f := fun x : Aj => x.id) (r := some) ?_ (fun _ => rfl) (by simp; omega)).trans (by simp [Yw])
 intro k x s n hs
 unfold Tu My
 rw [if_pos hs]
end Go.Dm

/- Plain theory, part 39: ascending lists; Sorted of the sets; Compact of lists that do not fall. -/
namespace Go.Dm
abbrev Asc (L : List Int) : Prop := L.Pairwise (· < ·)
theorem AfG : ∀ {A B : List Int},Asc A → Asc B → (∀ x,x ∈ A ↔ x ∈ B) → A = B
 | [],B,_,_,h => by
  cases B with
  | nil => rfl
  | cons b B => exact absurd ((h b).mpr (by simp)) (by simp)
 | a :: A,[],_,_,h => absurd ((h a).mp (by simp)) (by simp)
 | a :: A,b :: B,ha,hb,h => by
  rw [Asc,List.pairwise_cons] at ha hb
  have hab : a = b := by
   rcases List.mem_cons.mp ((h a).mp (by simp)) with e | e
   ·exact e
   ·rcases List.mem_cons.mp ((h b).mpr (by simp)) with e' | e'
    ·exact e'.symm
    ·have h1 := hb.1 a e
     have h2 := ha.1 b e'
     omega
  subst hab
  congr 1
  refine AfG ha.2 hb.2 fun x => ?_
  have hx := h x
  simp only [List.mem_cons] at hx
  constructor
  ·intro hm
   rcases hx.mp (.inr hm) with e | e
   ·have := ha.1 x hm
    omega
   ·exact e
  ·intro hm
   rcases hx.mpr (.inr hm) with e | e
   ·have := hb.1 x hm
    omega
   ·exact e
theorem put_in {L : List Int} {k : Nat} {x : Int} (hk : k ≤ L.length) : (Ml (L ++ [0]) (k + 1) (Gn (Cc (L ++ [0]).length k) (Cc (L ++ [0]).length (k + 1))) (((L ++ [0]).drop k).take (Cc (L ++ [0]).length k))).set k x = L.take k ++ x :: L.drop k := by
 have e1 : (L ++ [0]).drop k = L.drop k ++ [0] := List.drop_append_of_le_length hk
 have hl : (L ++ [0]).length = L.length + 1 := by simp
 have e2 : Gn (L.length + 1 - k) (L.length + 1 - (k + 1)) = L.length - k := by
  rw [Xo]
  show min _ _ = _
  omega
 have e3 : (L.drop k ++ [0]).take (L.length + 1 - k) = L.drop k ++ [(0 : Int)] := List.take_of_length_le (by simp; omega)
 have e4 : (L.drop k ++ [(0 : Int)]).take (L.length - k) = L.drop k := by
  rw [List.take_append_of_le_length (by simp),List.take_of_length_le (by simp)]
 have e5 : (L ++ [0]).drop (k + 1 + (L.length - k)) = ([] : List Int) := List.drop_of_length_le (by simp; omega)
 have e6 : ∃ y,(L ++ [0]).take (k + 1) = L.take k ++ [y] := by
  rw [List.take_add_one,List.take_append_of_le_length hk]
  have : k < (L ++ [(0 : Int)]).length := by simp; omega
  exact ⟨(L ++ [0])[k],by rw [List.getElem?_eq_getElem this]; rfl⟩
 obtain ⟨y,e6⟩ := e6
 unfold Ml
 rw [Fd,Fd,hl,e2,e1,e3,e4,e5,e6,List.append_nil,List.append_assoc]
 have hlen : (L.take k).length = k := by simp; omega
 rw [List.set_append_right _ _ (by omega),hlen,Nat.sub_self]
 rfl
theorem asc_put {L : List Int} {k : Nat} {x : Int} (h : Asc L) (h1 : ∀ y ∈ L.take k,y < x) (h2 : ∀ y ∈ L.drop k,x < y) : Asc (L.take k ++ x :: L.drop k) := by
 rw [Asc,List.pairwise_append,List.pairwise_cons]
 have hs : Asc (L.take k ++ L.drop k) := by rw [List.take_append_drop]; exact h
 rw [Asc,List.pairwise_append] at hs
 refine ⟨hs.1,⟨h2,hs.2.1⟩,fun a ha b hb => ?_⟩
 rcases List.mem_cons.mp hb with rfl | hb
 ·exact h1 a ha
 ·exact hs.2.2 a ha b hb
theorem AaC {l : List Int} (hl : l.length ≤ 1000000) : Ok (Kt l) (fun r => Asc r ∧ (∀ x,x ∈ r ↔ x ∈ l) ∧ r.length ≤ l.length) := by
 unfold Kt
 refine Ok.guard (by omega) ?_
 refine Ok.range (fun pre s => Asc s ∧ (∀ x,x ∈ s ↔ x ∈ pre) ∧ s.length ≤ pre.length) ⟨List.Pairwise.nil,by simp,by simp⟩ ?_ fun s h => Ok.ret h
 intro pre x post s n he ⟨ha,hm,hlen⟩ hn
 have hsl : s.length ≤ 1000000 := by
  have : pre.length ≤ l.length := by rw [he]; simp
  omega
 unfold Vu
 refine Ok.while (fun s4 => ∃ k : Nat,s4 = (k : Int) ∧ k ≤ s.length ∧ ∀ y ∈ s.drop k,x < y) (fun s4 => s4.toNat) ⟨s.length,rfl,Nat.le_refl _,by simp⟩ (by rw [Cs]; omega) ?_
 rintro _ m ⟨k,rfl,hk,hgt⟩ hm4
 have hJ11 : ∀ r,(Asc r ∧ (∀ y,y ∈ r ↔ y ∈ pre ++ [x]) ∧ r.length ≤ (pre ++ [x]).length) → Ok (Nk n r) (fun r => Asc r ∧ (∀ x,x ∈ r ↔ x ∈ l) ∧ r.length ≤ l.length) := fun r h => hn r h
 have hJ15 : ∀ b,(b = true → x ∈ s) → (b = false → ∀ y ∈ s.take k,y < x) → Ok (Lb x s n (k : Int) b) (fun r => Asc r ∧ (∀ x,x ∈ r ↔ x ∈ l) ∧ r.length ≤ l.length) := by
  intro b h1 h2
  unfold Lb
  refine Ok.ite (fun c => ?_) fun c => ?_
  ·refine hJ11 _ ⟨ha,fun y => ?_,by simp; omega⟩
   rw [hm y,List.mem_append,List.mem_singleton]
   constructor
   ·exact .inl
   ·rintro (h | rfl)
    ·exact h
    ·exact (hm y).mp (h1 c)
  ·have hw : w64 ((k : Int) + 1) = ((k + 1 : Nat) : Int) := by
    rw [At (by omega) (by omega)]
    omega
   have ht : Int.toNat (w64 ((k : Int) + 1)) = k + 1 := by rw [hw]; omega
   have ht0 : Int.toNat (k : Int) = k := by omega
   rw [ht,hw,ht0]
   have hl0 : (s ++ [0]).length = s.length + 1 := by simp
   have hol : (Ml (s ++ [0]) (k + 1) (Gn (Cc (s ++ [0]).length k) (Cc (s ++ [0]).length (k + 1))) (((s ++ [0]).drop k).take (Cc (s ++ [0]).length k))).length = s.length + 1 := by
    rw [AgG,hl0]
    ·rw [hl0,Fd,Fd,Xo]
     show k + 1 + min _ _ ≤ _
     omega
    ·rw [List.length_take,List.length_drop,hl0,Fd,Fd,Xo]
     show min _ _ ≤ _
     omega
   refine Ok.guard (by omega) (Ok.guard ⟨by omega,by rw [hl0]; omega⟩ (Ok.guard ⟨by omega,by rw [hl0]; omega⟩ (Ok.guard (by rw [hl0,Fd]; omega) (Ok.guard ⟨by omega,by rw [hol]; omega⟩ (Ok.guard (by rw [hol]; omega) ?_)))))
   rw [put_in hk]
   refine hJ11 _ ⟨asc_put ha (h2 c) hgt,fun y => ?_,by simp; omega⟩
   rw [List.mem_append,List.mem_cons,List.mem_append,List.mem_singleton,← hm y]
   constructor
   ·rintro (h | rfl | h)
    ·exact .inl (List.mem_of_mem_take h)
    ·exact .inr rfl
    ·exact .inl (List.mem_of_mem_drop h)
   ·rintro (h | rfl)
    ·rw [← List.take_append_drop k s,List.mem_append] at h
     rcases h with h | h
     ·exact .inl h
     ·exact .inr (.inr h)
    ·exact .inr (.inl rfl)
 by_cases k0 : k = 0
 ·subst k0
  unfold Rt La
  rw [if_neg (by simp),if_neg (by simp),if_neg (by simp)]
  exact hJ15 _ (by simp) (by simp)
 ·have hw : w64 ((k : Int) - 1) = ((k - 1 : Nat) : Int) := by
   rw [At (by omega) (by omega)]
   omega
  have ht : Int.toNat (((k - 1 : Nat) : Int)) = k - 1 := by omega
  have hkl : k - 1 < s.length := by omega
  have hd : s.drop (k - 1) = s.getD (k - 1) 0 :: s.drop k := by
   rw [List.drop_eq_getElem_cons hkl,Im hkl,Nat.sub_add_cancel (by omega)]
  have htk : s.take k = s.take (k - 1) ++ [s.getD (k - 1) 0] := by
   have : k = k - 1 + 1 := by omega
   rw [this,List.take_add_one,Im (by omega),List.getElem?_eq_getElem (by omega)]
   rfl
  have hlast : ∀ y ∈ s.take (k - 1),y < s.getD (k - 1) 0 := by
   have hs : Asc (s.take k) := ha.sublist (List.take_sublist _ _)
   rw [htk,Asc,List.pairwise_append] at hs
   intro y hy
   exact hs.2.2 y hy _ (by simp)
  unfold Rt
  rw [hw,ht]
  refine Ok.ite (fun _ => Ok.guard ⟨by omega,by omega⟩ (Ok.guard hkl ?_)) fun c => by simp at c; omega
  unfold La
  rw [hw,ht]
  refine Ok.ite (fun c => ?_) fun c => ?_
  ·have hx : x < s.getD (k - 1) 0 := by simpa using c
   refine hm4 _ ⟨k - 1,rfl,by omega,?_⟩ (by omega)
   rw [hd]
   intro y hy
   rcases List.mem_cons.mp hy with rfl | hy
   ·exact hx
   ·exact hgt y hy
  ·have hx : ¬ x < s.getD (k - 1) 0 := by simpa using c
   refine Ok.ite (fun _ => Ok.guard ⟨by omega,by omega⟩ (Ok.guard hkl ?_)) fun c => by simp at c; omega
   refine hJ15 _ (fun c => ?_) (fun c => ?_)
   ·have : s.getD (k - 1) 0 = x := by simpa using c
    rw [← this]
    exact Tx hkl
   ·have hne : s.getD (k - 1) 0 ≠ x := by simpa using c
    rw [htk]
    intro y hy
    rcases List.mem_append.mp hy with hy | hy
    ·have := hlast y hy
     omega
    ·have : y = s.getD (k - 1) 0 := by simpa using hy
     omega
theorem AeZ {l : List Int} (hl : l.length ≤ 1000000) (ha : Asc l) : Kt l = some l :=
 ((AaC hl).mono fun _ ⟨h1,h2,_⟩ => AfG h1 ha h2).eq
theorem le_at {L : List Int} (h : L.Pairwise (· ≤ ·)) {i j : Nat} (hij : i ≤ j) (hj : j < L.length) : L.getD i 0 ≤ L.getD j 0 := by
 by_cases e : i = j
 ·subst e
  omega
 ·rw [Im hj,Im (by omega)]
  exact List.pairwise_iff_getElem.mp h i j (by omega) hj (by omega)
theorem Fb {L : List Int} {k : Nat} (h : k < L.length) : L.take (k + 1) = L.take k ++ [L.getD k 0] := by
 rw [List.take_add_one,Im h,List.getElem?_eq_getElem h]
 rfl
theorem AhK {L : List Int} (hl : L.length ≤ 1000000) (h : L.Pairwise (· ≤ ·)) : Ok (Dq L) (fun r => r.2.length = L.length ∧ r.1 ≤ L.length ∧ Asc (r.2.take r.1) ∧ ∀ x,x ∈ r.2.take r.1 ↔ x ∈ L) := by
 have whole : Asc L → (L.length,L).2.length = L.length ∧ (L.length,L).1 ≤ L.length ∧ Asc ((L.length,L).2.take (L.length,L).1) ∧ ∀ x,x ∈ (L.length,L).2.take (L.length,L).1 ↔ x ∈ L := by
  intro ha
  refine ⟨rfl,Nat.le_refl _,?_,fun x => ?_⟩
  ·show Asc (L.take L.length)
   rw [List.take_length]
   exact ha
  ·show x ∈ L.take L.length ↔ x ∈ L
   rw [List.take_length]
 unfold Dq
 refine Ok.ite (fun c => Ok.ret (whole ?_)) fun c => ?_
 ·have : L.length < 2 := by
   have : ((L.length : Nat) : Int) < 2 := by simpa using c
   omega
  match L,this with
  | [],_ => exact List.Pairwise.nil
  | [a],_ => simp [Asc]
 have hl2 : 2 ≤ L.length := by
  have : ¬ ((L.length : Nat) : Int) < 2 := by simpa using c
  omega
 refine Ok.guard (by omega) ?_
 refine Ok.for (fun j _ => Asc (L.take (j + 1))) ?_ ?_ ?_
 ·rw [Fb (by omega)]
  simp [Asc]
 ·intro j _ n hj ha hn
  have hj' : j + 1 < L.length := by omega
  have hw : w64 (1 + (j : Int) - 1) = (j : Int) := by
   rw [At (by omega) (by omega)]
   omega
  have e1 : Int.toNat (1 + (j : Int)) = j + 1 := by omega
  have e0 : Int.toNat (j : Int) = j := by omega
  unfold Kl
  rw [hw,e1,e0]
  refine Ok.guard ⟨by omega,by omega⟩ (Ok.guard hj' (Ok.guard ⟨by omega,by omega⟩ (Ok.guard (by omega) ?_)))
  refine Ok.ite (fun c => ?_) fun c => ?_
  ·have heq : L.getD (j + 1) 0 = L.getD j 0 := by simpa using c
   refine Ok.guard ⟨by omega,by omega⟩ (Ok.guard (by rw [Fd]; omega) ?_)
   refine Ok.for (fun q s => ∃ k : Nat,s.2 = (k : Int) ∧ s.1.length = L.length ∧ 1 ≤ k ∧ k ≤ j + 1 + q ∧ s.1.drop (j + 1 + q) = L.drop (j + 1 + q) ∧ Asc (s.1.take k) ∧ (∀ x,x ∈ s.1.take k ↔ x ∈ L.take (j + 1 + q + 1)) ∧ s.1.getD (k - 1) 0 = L.getD (j + 1 + q) 0) ?_ ?_ ?_
   ·refine ⟨j + 1,by simp only; omega,rfl,by omega,by omega,rfl,ha,fun x => ?_,?_⟩
    ·show x ∈ L.take (j + 1) ↔ x ∈ L.take (j + 1 + 0 + 1)
     rw [Nat.add_zero,Fb (k := j + 1) hj',List.mem_append,heq]
     constructor
     ·exact .inl
     ·rintro (h | h)
      ·exact h
      ·have : x = L.getD j 0 := by simpa using h
       rw [this,Fb (k := j) (by omega)]
       simp
    ·simp only [Nat.add_sub_cancel,Nat.add_zero]
     exact heq.symm
   ·rintro q ⟨M,k'⟩ m hq ⟨k,e2,hM,k1,hk,hd,hasc,hmem,hlast⟩ hm
    simp only at e2 hM hd hasc hmem hlast
    subst e2
    rw [Fd] at hq
    have hw2 : w64 (1 + (q : Int) - 1) = (q : Int) := by
     rw [At (by omega) (by omega)]
     omega
    have e3 : Int.toNat (1 + (q : Int)) = q + 1 := by omega
    have e4 : Int.toNat (q : Int) = q := by omega
    have hqL : j + 1 + q + 1 < L.length := by omega
    have hget : ∀ i,j + 1 + q ≤ i → M.getD i 0 = L.getD i 0 := by
     intro i hi
     have h1 : M.getD i 0 = (M.drop (j + 1 + q)).getD (i - (j + 1 + q)) 0 := by
      simp only [List.getD_eq_getElem?_getD,List.getElem?_drop]
      congr 2
      omega
     have h2 : L.getD i 0 = (L.drop (j + 1 + q)).getD (i - (j + 1 + q)) 0 := by
      simp only [List.getD_eq_getElem?_getD,List.getElem?_drop]
      congr 2
      omega
     rw [h1,h2,hd]
    unfold Oa
    simp only
    rw [hw2,e1,e3,e4,Fd,Mb,Mb,hget (j + 1 + (q + 1)) (by omega),hget (j + 1 + q) (by omega),hM]
    refine Ok.guard ⟨by omega,by omega⟩ (Ok.guard (by omega) (Ok.guard ⟨by omega,by omega⟩ (Ok.guard (by omega) ?_)))
    have hk' : Int.toNat (k : Int) = k := by omega
    have hle := le_at h (i := j + 1 + q) (j := j + 1 + (q + 1)) (by omega) (by omega)
    have htake : L.take (j + 1 + (q + 1) + 1) = L.take (j + 1 + q + 1) ++ [L.getD (j + 1 + (q + 1)) 0] := Fb (k := j + 1 + (q + 1)) (by omega)
    have hin : L.getD (j + 1 + q) 0 ∈ L.take (j + 1 + q + 1) := by
     rw [Fb (by omega)]
     simp
    refine Ok.ite (fun c => ?_) fun c => ?_
    ·have hne : L.getD (j + 1 + (q + 1)) 0 ≠ L.getD (j + 1 + q) 0 := by simpa using c
     refine Ok.guard ⟨by omega,by omega⟩ (Ok.guard (by omega) (Ok.guard ⟨by omega,by omega⟩ (Ok.guard (by rw [hk']; omega) ?_)))
     rw [hk']
     have hwk : w64 ((k : Int) + 1) = ((k + 1 : Nat) : Int) := by
      rw [At (by omega) (by omega)]
      omega
     have hset : (M.set k (L.getD (j + 1 + (q + 1)) 0)).take (k + 1) = M.take k ++ [L.getD (j + 1 + (q + 1)) 0] := by
      rw [Fb (by rw [List.length_set]; omega),List.take_set_of_le (Nat.le_refl _)]
      congr 2
      rw [List.getD_eq_getElem?_getD,List.getElem?_set_self (by omega)]
      rfl
     refine hm _ ⟨k + 1,by rw [hwk],by simp [hM],by omega,by omega,?_,?_,?_,?_⟩
     ·show (M.set k _).drop (j + 1 + (q + 1)) = L.drop (j + 1 + (q + 1))
      rw [List.drop_set_of_lt (by omega),show j + 1 + (q + 1) = j + 1 + q + 1 by omega,← List.drop_drop,hd,List.drop_drop]
     ·show Asc ((M.set k _).take (k + 1))
      rw [hset,Asc,List.pairwise_append]
      refine ⟨hasc,by simp,fun a ha b hb => ?_⟩
      have hb' : b = L.getD (j + 1 + (q + 1)) 0 := by simpa using hb
      have hkk : k = k - 1 + 1 := by omega
      rw [hkk,Fb (by omega),List.mem_append] at ha
      rcases ha with ha | ha
      ·have h2 := hasc
       rw [hkk,Fb (by omega),Asc,List.pairwise_append] at h2
       have := h2.2.2 a ha _ (List.mem_singleton.mpr rfl)
       omega
      ·have : a = M.getD (k - 1) 0 := by simpa using ha
       omega
     ·intro x
      show x ∈ (M.set k _).take (k + 1) ↔ _
      rw [hset,htake,List.mem_append,List.mem_append,hmem x]
     ·show (M.set k _).getD (k + 1 - 1) 0 = _
      rw [Nat.add_sub_cancel,List.getD_eq_getElem?_getD,List.getElem?_set_self (by omega)]
      rfl
    ·have heq2 : L.getD (j + 1 + (q + 1)) 0 = L.getD (j + 1 + q) 0 := by simpa using c
     refine hm _ ⟨k,rfl,hM,k1,by omega,?_,hasc,?_,?_⟩
     ·show M.drop (j + 1 + (q + 1)) = L.drop (j + 1 + (q + 1))
      rw [show j + 1 + (q + 1) = j + 1 + q + 1 by omega,← List.drop_drop,hd,List.drop_drop]
     ·intro x
      show x ∈ M.take k ↔ _
      rw [htake,List.mem_append,hmem x]
      constructor
      ·exact .inl
      ·rintro (h | h)
       ·exact h
       ·have : x = L.getD (j + 1 + (q + 1)) 0 := by simpa using h
        rw [this,heq2]
        exact hin
     ·show M.getD (k - 1) 0 = _
      rw [hlast]
      exact heq2.symm
   ·rintro ⟨M,k'⟩ ⟨k,e2,hM,k1,hk,hd,hasc,hmem,hlast⟩
    simp only at e2 hM hd hasc hmem hlast
    subst e2
    have hm0 : Int.toNat ((((Cc L.length (j + 1)) : Nat) : Int) - 1) = L.length - (j + 1) - 1 := by
     rw [Fd]
     omega
    rw [hm0] at hk hmem
    have hk' : Int.toNat (k : Int) = k := by omega
    unfold Of
    simp only
    rw [hk',hM,Fd]
    have hfl : (Lw M k (L.length - k) 0).length = L.length := by
     rw [AgF (by omega),hM]
    refine Ok.guard ⟨by omega,by omega⟩ (Ok.guard (by omega) (Ok.guard ⟨by omega,by rw [hfl]; omega⟩ (Ok.ret ?_)))
    refine ⟨hfl,by show k ≤ _; omega,?_,?_⟩
    ·show Asc ((Lw M k (L.length - k) 0).take k)
     rw [AeN (by omega)]
     exact hasc
    ·intro x
     show x ∈ (Lw M k (L.length - k) 0).take k ↔ x ∈ L
     rw [AeN (by omega),hmem x,List.take_of_length_le (by omega)]
  ·have hne : L.getD (j + 1) 0 ≠ L.getD j 0 := by simpa using c
   refine hn () ?_
   have hle := le_at h (i := j) (j := j + 1) (by omega) hj'
   rw [Fb (k := j + 1) hj',Asc,List.pairwise_append]
   refine ⟨ha,by simp,fun a ha' b hb => ?_⟩
   have hb' : b = L.getD (j + 1) 0 := by simpa using hb
   rw [Fb (by omega),List.mem_append] at ha'
   rcases ha' with ha' | ha'
   ·have h2 := ha
    rw [Fb (by omega),Asc,List.pairwise_append] at h2
    have := h2.2.2 a ha' _ (List.mem_singleton.mpr rfl)
    omega
   ·have : a = L.getD j 0 := by simpa using ha'
    omega
 ·intro _ ha
  refine Ok.ret (whole ?_)
  have : Int.toNat (((L.length : Nat) : Int) - 1) + 1 = L.length := by omega
  rw [this,List.take_length] at ha
  exact ha
theorem sortU_ok {L : List Int} (hl : L.length ≤ 1000) : ∃ M,Fm L = some M ∧ M.length = L.length ∧ ∃ r,Dq M = some r ∧ r.2.length = M.length ∧ r.1 ≤ M.length ∧ Asc (r.2.take r.1) ∧ ∀ x,x ∈ r.2.take r.1 ↔ x ∈ L := by
 obtain ⟨M,h1,h2,h3⟩ := Sort_ok L hl
 have hlen := h2.length_eq
 obtain ⟨r,g1,g2,g3,g4,g5⟩ := AhK (L := M) (by omega) h3
 exact ⟨M,h1,hlen,r,g1,g2,g3,g4,fun x => (g5 x).trans h2.mem_iff⟩
end Go.Dm

/- Plain theory, part 30: what keeps Fits; all made hierarchies fit. -/
namespace Go.Dm
section
variable {t t' : Ae} {fn : Af → Af}
end
section
variable {t t' : Ae} {p : Int} {s : ByteArray}
end
end Go.Dm

/- Models of Go types and functions, printed by a program. -/
namespace Go.Dm
set_option linter.unusedVariables false
end Go.Dm

/- Models of Go types and functions, printed by a program. -/
namespace Go.Dm
set_option linter.unusedVariables false
end Go.Dm

/- Plain theory, part 31: threaded's functions. -/
namespace Go.Dm
end Go.Dm

/- Plain theory, part 32: new groups. -/
namespace Go.Dm
end Go.Dm

/- Plain theory, part 33: controllers are written, groups are made threaded. -/
namespace Go.Dm
end Go.Dm

/- Plain theory, part 34: names of made groups are short. -/
namespace Go.Dm
end Go.Dm

/- Plain theory, part 35: rights of users. -/
namespace Go.Dm
end Go.Dm

/- Plain theory, part 36: acts of users. -/
namespace Go.Dm
theorem Le (l : List Int) (hl : l.length ≤ 1000000) : Po l l = some true := by
 unfold Po
 rw [if_neg (by simp),if_pos (by omega)]
 apply Ok.eq
 refine Ok.range (fun _ _ => True) trivial ?_ fun _ _ => Ok.ret rfl
 intro pre x post s n he _ hn
 unfold Aas
 have hi : pre.length < l.length := by
  rw [he]
  simp
 rw [if_pos hi]
 have : l.getD pre.length 0 = x := by
  rw [he]
  exact Yp
 rw [this,if_neg (by simp)]
 exact hn () trivial
end Go.Dm

/- Plain theory, part 40: what is read of any hierarchy; processes; hierarchies that were handed in. -/
namespace Go.Dm
def okNode (x : Af) : Prop := okI x.id ∧ okI x.parent ∧ okS x.name ∧ okI x.control ∧ okI x.kind ∧ okI x.owner ∧ True
def okTask (x : Aj) : Prop := okI x.id ∧ okI x.process ∧ okI x.group ∧ okI x.user ∧ True
def okTree (t : Ae) : Prop := okL okNode t.nodes ∧ okI t.next ∧ True
def okHier (h : Aa) : Prop := okTree h.tree ∧ okL okTask h.tasks ∧ okI h.next ∧ True
theorem names_of {t : Ae} (h : okTree t) : ∀ x ∈ t.nodes,Wj x := by
 intro x hx
 obtain ⟨_,_,h3,h4,_⟩ := h.1.2 x hx
 exact ⟨h3,by have := h4.2; omega⟩
theorem raw_of {h : Aa} (r : okHier h) (h1 : h.tree.nodes.length ≤ 1000) (h2 : h.tasks.length ≤ 1000) : Qu h := ⟨h1,h2,names_of r.1⟩
theorem Wb {α β : Type} (p : α → Bool) (f : α → β) (l : List α) : ((l.filter p).map f).length ≤ l.length := by
 rw [List.length_map]
 exact List.length_filter_le p l
theorem AeQ (h : Aa) (g : Int) : (Vi h g).length ≤ h.tasks.length := Wb _ _ _
theorem AgZ (h : Aa) (g : Int) : (Yw h g).length ≤ h.tasks.length := Wb _ _ _
noncomputable def Wo (h : Aa) (g : Int) : List Int := (Kt ((h.tasks.filter (fun x => x.group == g)).map (·.process))).getD []
theorem Abb {h : Aa} (hl : h.tasks.length ≤ 1000000) (g : Int) : Kt ((h.tasks.filter (fun x => x.group == g)).map (·.process)) = some (Wo h g) ∧ Asc (Wo h g) ∧ (∀ x,x ∈ Wo h g ↔ x ∈ (h.tasks.filter (fun x => x.group == g)).map (·.process)) ∧ (Wo h g).length ≤ h.tasks.length := by
 have hf := Wb (fun x : Aj => x.group == g) (·.process) h.tasks
 obtain ⟨r,h1,h2,h3,h4⟩ := AaC (l := (h.tasks.filter (fun x => x.group == g)).map (·.process)) (by omega)
 have : Wo h g = r := by
  unfold Wo
  rw [h1]
  rfl
 rw [this]
 exact ⟨h1,h2,h3,by omega⟩
theorem procK_len (h : Aa) (g : Int) : (Wo h g).length ≤ max h.tasks.length 0 ∨ h.tasks.length > 1000000 := by
 by_cases hl : h.tasks.length ≤ 1000000
 ·left
  have := (Abb hl g).2.2.2
  omega
 ·right
  omega
theorem AbT {h : Aa} (w : WfH h) (g : Int) : Ht h g = some (Wo h g) := by
 have l1 := w.len
 obtain ⟨_,p2,p3,p4⟩ := Abb (h := h) (by omega) g
 have hf := Wb (fun x : Aj => x.group == g) (·.process) h.tasks
 unfold Ht
 rw [Li w,Option.bind_some]
 unfold Cb
 rw [if_pos (by omega),Ho (p := fun x : Aj => x.group == g) (f := fun x : Aj => x.process) (r := Bp) (fun k x s n hs => by
  unfold Dp Ca Mp Md
  simp only [Option.bind_some]
  rw [if_pos hs]) (fun _ => rfl) (by simp; omega),List.nil_append]
 unfold Bp
 obtain ⟨M,m1,m2,r,r1,r2,r3,r4,r5⟩ := sortU_ok (L := (h.tasks.filter (fun x => x.group == g)).map (·.process)) (by omega)
 rw [m1,Option.bind_some,if_pos m2.symm,r1,Option.bind_some,if_pos r2.symm,if_pos (by omega),Option.bind_some]
 congr 1
 exact AfG r4 p2 fun x => (r5 x).trans (p3 x).symm
theorem Aeh {h : Aa} (w : WfH h) (g : Int) : Ja h g = some (Wo h g) := by
 have l1 := w.len
 have l2 := AeQ h g
 obtain ⟨p1,_⟩ := Abb (h := h) (by omega) g
 unfold Ja
 rw [Xy w,Option.bind_some]
 apply Ok.eq
 refine Ok.guard (by omega) ?_
 refine Ok.range (fun pre s => s = pre.map (fun k => ((Gb h.tasks k).getD zK).process)) rfl ?_ ?_
 ·intro pre x post s n he hs hn
  unfold Rw
  have hpl : pre.length ≤ (Vi h g).length := by rw [he]; simp
  rw [find6 w,Option.bind_some,if_pos (by rw [hs,List.length_map]; omega)]
  refine hn _ ?_
  rw [hs,List.map_append]
  rfl
 ·intro s hs
  have hmap : (Vi h g).map (fun k => ((Gb h.tasks k).getD zK).process) = (h.tasks.filter (fun x => x.group == g)).map (·.process) := by
   unfold Vi
   rw [List.map_map]
   apply List.map_congr_left
   intro x hx
   simp only [Function.comp]
   rw [getK_of w.sorted (List.mem_filter.mp hx).1]
   rfl
  unfold Ll
  rw [hs,hmap,p1,Option.bind_some]
  exact Ok.ret rfl
theorem Aed {h : Aa} (w : WfH h) (k : Int) : Je h k = some (decide (((Xm h k : Nat) : Int) > 0)) := by
 unfold Je
 rw [Acq w]
 rfl
theorem Lp {h : Aa} (r : Qu h) (w : ¬ WfH h) : Ff h = some zH := by
 unfold Ff
 rw [AaE r w]
 rfl
theorem Agj {h : Aa} (r : Qu h) (w : ¬ WfH h) (k : Int) : Mt h k = some (zK,false) := by
 unfold Mt
 rw [Lp r w,Option.bind_some,Xn zH k (by simp [zH])]
 rfl
theorem Afo {h : Aa} (r : Qu h) (w : ¬ WfH h) (k : Int) : Ls h k = some [] := by
 unfold Ls
 rw [Lp r w,Option.bind_some,AbZ (by simp [zH]) (by simp [zH])]
 rfl
theorem Aee {h : Aa} (r : Qu h) (w : ¬ WfH h) (k : Int) : Iz h k = some [] := by
 unfold Iz
 rw [Lp r w,Option.bind_some,AaV (by simp [zH]) (by simp [zH])]
 rfl
theorem Afj {h : Aa} (w : ¬ WfH h) (k : Int) : Lo h k = some [] := by
 unfold Lo
 rw [Mw w]
 rfl
theorem Acw {h : Aa} (r : Qu h) (w : ¬ WfH h) (k : Int) : Ht h k = some [] := by
 unfold Ht
 rw [Lp r w,Option.bind_some]
 unfold Cb
 rw [if_pos (by simp [zH])]
 show Option.bind (Bp []) _ = _
 unfold Bp
 rw [Aek (L := []) List.Pairwise.nil (by simp),Option.bind_some,if_pos rfl,Aag (L := []) List.Pairwise.nil (by simp),Option.bind_some]
 rfl
theorem Aef {h : Aa} (w : ¬ WfH h) (k : Int) : Ja h k = some [] := by
 unfold Ja
 rw [Xl w,Option.bind_some,if_pos (by simp)]
 show Ll [] = _
 unfold Ll
 rw [AeZ (l := []) (by simp) List.Pairwise.nil]
 rfl
theorem AaX {h : Aa} (r : Qu h) (w : ¬ WfH h) (k : Int) : Jv h k = some 0 := by
 unfold Jv
 rw [Lp r w,Option.bind_some]
 unfold Ql Ld
 rw [AbM zH.tree k (by simp [zH,zT])]
 rfl
theorem Acj {h : Aa} (r : Qu h) (w : ¬ WfH h) (k : Int) : Hq h k = some false := by
 unfold Hq
 rw [AaX r w]
 rfl
theorem Acg {h : Aa} (w : ¬ WfH h) (k : Int) : Mg h k = some 0 := by
 unfold Mg
 rw [Mw w]
 rfl
theorem AdW {h : Aa} (w : ¬ WfH h) (k : Int) : Je h k = some false := by
 unfold Je
 rw [Acg w]
 rfl
end Go.Dm

/- The law MemberReads, on the model. -/
namespace Go.Dm
theorem reads_ok {h : Aa} (r : Qu h) (k : Int) {n : Unit → Option Bool} (hn : Ok (n ()) (· = true)) : Ok (Js h 0 k () n) (· = true) := by
 have hJ : Ok (Di n false) (· = true) := hn
 by_cases w : WfH h
 ·have l1 := w.len
  have s1 := AeQ h k
  have s2 := AgZ h k
  have s3 := procK_len h k
  unfold Js
  rw [Agh w,Option.bind_some,Ow w,Option.bind_some,Aae,if_neg (by simp),if_neg (by simp),Afk w,Option.bind_some,Xy w,Option.bind_some,Le _ (by omega),Option.bind_some,if_neg (by simp),
   AbT w,Option.bind_some,Aeh w,Option.bind_some,Le _ (by omega),Option.bind_some,if_neg (by simp),AdI w,Option.bind_some,Afq w,Option.bind_some,Le _ (by omega),Option.bind_some,if_neg (by simp),
   AaJ w,Option.bind_some,Acq w,Option.bind_some,if_neg (by simp),AbQ w,Option.bind_some,Aed w,Option.bind_some]
  simpa using hJ
 ·unfold Js
  rw [Agj r w,Option.bind_some,Adk w,Option.bind_some,Aae,if_neg (by simp),if_neg (by simp),Afo r w,Option.bind_some,Xl w,Option.bind_some,Le _ (by simp),Option.bind_some,if_neg (by simp),
   Acw r w,Option.bind_some,Aef w,Option.bind_some,Le _ (by simp),Option.bind_some,if_neg (by simp),Aee r w,Option.bind_some,Afj w,Option.bind_some,Le _ (by simp),Option.bind_some,if_neg (by simp),
   AaX r w,Option.bind_some,Acg w,Option.bind_some,if_neg (by simp),Acj r w,Option.bind_some,AdW w,Option.bind_some]
  simpa using hJ
theorem AfN (l : List Int) (raw : Aa) (hr : okHier raw) (id : Int) : Ok (Lj l raw id) (· = true) := by
 have sane : ∀ {f : Bool → Option Bool},f true = some true → Ok (Option.bind Sa f) (· = true) := fun h => Ok.step Ahh (Ok.of_eq h rfl)
 have hJt : Ok (Fs l raw id true) (· = true) := by
  unfold Fs
  rw [if_pos rfl]
  exact sane rfl
 unfold Lj Wt
 refine Ok.step rfl ?_
 refine Ok.ite (fun _ => hJt) fun c => ?_
 have hl : l.length ≤ 600 := by
  have : ((l.length : Nat) : Int) ≤ 600 := by simpa using c
  omega
 refine Ok.ite (fun _ => hJt) fun c1 => ?_
 have h1 : raw.tasks.length ≤ 130 := by
  have : ¬ ((raw.tasks.length : Nat) : Int) > 130 := by simpa using c1
  omega
 cases c2 : decide (((raw.tree.nodes.length : Nat) : Int) > 70) with
 | true => exact hJt
 | false =>
  have h2 : raw.tree.nodes.length ≤ 70 := by
   have : ¬ ((raw.tree.nodes.length : Nat) : Int) > 70 := by simpa using c2
   omega
  unfold Fs
  rw [if_neg (by simp)]
  refine Ok.step (a := { l := l,atF := 0 }) rfl ?_
  refine Ok.bind (AgC (dice_roll hl) 6 8 (by omega) (by omega) (by omega) (by omega)) fun r7 ⟨w,hd⟩ => ?_
  refine Ok.bind (AeW hd w) fun r9 ⟨ro,hd⟩ => ?_
  refine Ok.guard (by simp) ?_
  have hraw : ∀ x ∈ [r7.1,r9.1,raw],Qu x := by
   intro x hx
   simp only [List.mem_cons,List.not_mem_nil,or_false] at hx
   rcases hx with rfl | rfl | rfl
   ·exact w.raw
   ·exact ro
   ·exact raw_of hr (by omega) (by omega)
  refine Ok.range (fun _ s => Bv s) hd ?_ ?_
  ·intro pre x post s n he hs hn
   have rx : Qu x := hraw x (by rw [he]; simp)
   have l1 := rx.nodes
   have l2 := rx.tasks
   unfold Pl
   have hck : ∃ b,Ga x = some b ∧ Em x = some b := by
    by_cases wx : WfH x
    ·exact ⟨true,AaR wx,Hl wx⟩
    ·exact ⟨false,AaE rx wx,Mw wx⟩
   obtain ⟨b,k1,k2⟩ := hck
   rw [k1,Option.bind_some,k2,Option.bind_some,if_neg (by simp)]
   refine Ok.bind (Abk hs _ (by omega)) fun g hs => Ok.bind (AcT hs _ (by omega)) fun t hs => ?_
   refine Ok.guard (by simp) ?_
   refine Ok.range (fun _ _ => True) trivial ?_ fun _ _ => hn _ hs
   intro p2 y q2 _ n2 _ _ hn2
   exact reads_ok rx y (hn2 () trivial)
  ·intro s _
   unfold Pt
   have e : Sg = some { tree := newT,tasks := [],next := 1 } := rfl
   have e2 : Yl = some { tree := newT,tasks := [],next := 1 } := rfl
   rw [e,Option.bind_some,e2,Option.bind_some,AfJ _ (by simp [newT]) (by simp),Option.bind_some,if_pos rfl]
   exact sane rfl
theorem Aej (l : List Int) (raw : Aa) (id : Int) (_ : ∀ n ∈ l,-9223372036854775808 ≤ n ∧ n ≤ 9223372036854775807) (hr : okHier raw) (_ : IntKind.i64.min ≤ id) (_ : id ≤ IntKind.i64.max) : Lj l raw id = some true := (AfN l raw hr id).eq
end Go.Dm

/- Models of Go types and functions, printed by a program. -/
namespace Go.Dm
set_option linter.unusedVariables false

end Go.Dm


/- Types of the program. -/
namespace Go.Dm
open Go.Proofs
set_option linter.unusedVariables false
def Tt : Ty := [(3,⟨.int .i64,1,8,[.int .i64 0],false⟩),
  (4,⟨.bool,1,1,[.bool false],false⟩),
  (5,⟨.int .u8,1,1,[.int .u8 0],false⟩),
  (9,⟨.str,1,16,[.string ByteArray.empty],false⟩),
  (22,⟨.slice 3,1,24,[.slice none 0 0],false⟩),
  (23,⟨.slice 57,1,24,[.slice none 0 0],false⟩),
  (25,⟨.struct [(0,23),(1,3)],2,32,[.slice none 0 0,.int .i64 0],false⟩),
  (26,⟨.slice 40,1,24,[.slice none 0 0],false⟩),
  (28,⟨.struct [(0,25),(2,26),(3,3)],4,64,[.slice none 0 0,.int .i64 0,.slice none 0 0,.int .i64 0],false⟩),
  (35,⟨.slice 28,1,24,[.slice none 0 0],false⟩),
  (40,⟨.struct [(0,3),(1,3),(2,3),(3,3)],4,32,[.int .i64 0,.int .i64 0,.int .i64 0,.int .i64 0],true⟩),
  (57,⟨.struct [(0,3),(1,3),(2,9),(3,3),(4,3),(5,3)],6,56,[.int .i64 0,.int .i64 0,.string ByteArray.empty,.int .i64 0,.int .i64 0,.int .i64 0],true⟩),
  (73,⟨.int .i64,1,8,[.int .i64 0],false⟩),
  (111,⟨.struct [(0,22),(1,3)],2,32,[.slice none 0 0,.int .i64 0],false⟩),
  (165,⟨.slice 9,1,24,[.slice none 0 0],false⟩),
  (167,⟨.map 3 3,1,8,[(.map none)],false⟩),
  (175,⟨.int .u64,1,8,[.int .u64 0],false⟩),
  (192,⟨.int .i64,1,8,[.int .i64 0],false⟩),
  (201,⟨.int .u64,1,8,[.int .u64 0],false⟩),
  (208,⟨.slice 5,1,24,[.slice none 0 0],false⟩),
  (211,⟨.int .u64,1,8,[.int .u64 0],false⟩)]
theorem Tgood : Ln Tryz.prog Tt := tyGood_of ⟨⟨⟨by kernel_rfl,by kernel_rfl⟩,trivial⟩,⟨⟨by kernel_rfl,by kernel_rfl⟩,trivial⟩,⟨⟨by kernel_rfl,by kernel_rfl⟩,trivial⟩,⟨⟨by kernel_rfl,by kernel_rfl⟩,trivial⟩,⟨⟨by kernel_rfl,by kernel_rfl⟩,trivial⟩,⟨⟨by kernel_rfl,by kernel_rfl⟩,trivial⟩,⟨⟨by kernel_rfl,by kernel_rfl⟩,trivial⟩,⟨⟨by kernel_rfl,by kernel_rfl⟩,trivial⟩,⟨⟨by kernel_rfl,by kernel_rfl⟩,trivial⟩,⟨⟨by kernel_rfl,by kernel_rfl⟩,trivial⟩,⟨⟨by kernel_rfl,by kernel_rfl⟩,⟨by kernel_rfl,by kernel_rfl,by kernel_rfl⟩⟩,⟨⟨by kernel_rfl,by kernel_rfl⟩,⟨by kernel_rfl,by kernel_rfl,by kernel_rfl⟩⟩,⟨⟨by kernel_rfl,by kernel_rfl⟩,trivial⟩,⟨⟨by kernel_rfl,by kernel_rfl⟩,trivial⟩,⟨⟨by kernel_rfl,by kernel_rfl⟩,trivial⟩,⟨⟨by kernel_rfl,by kernel_rfl⟩,trivial⟩,⟨⟨by kernel_rfl,by kernel_rfl⟩,trivial⟩,⟨⟨by kernel_rfl,by kernel_rfl⟩,trivial⟩,⟨⟨by kernel_rfl,by kernel_rfl⟩,trivial⟩,⟨⟨by kernel_rfl,by kernel_rfl⟩,trivial⟩,⟨⟨by kernel_rfl,by kernel_rfl⟩,trivial⟩,trivial⟩ (by kernel_rfl) (by kernel_rfl)
theorem mixed : Tryz.prog.follows .mixedOrders = true := by kernel_rfl
theorem RK {cx : Cx} {σ : St} {Q : Exit → St → Prop} {nt : Nat} (hnt : cx.nt = nt) {ops : Array Oper} {id : Nat} {draw : Bool} {r : List Code} (xs : List Orc) (sl : List (Nat × MV)) (ob : List (Nat × Obj))
    {q : Prop} (hq : q) (hQ : DW Tryz.prog cx r (Ao sl ob) Q) (h : Uo Tryz.prog Tt nt ops xs (Db sl) (Db ob) draw σ = some ((sl,ob),q) := by kernel_rfl) : DW Tryz.prog cx (.region id ops draw :: r) σ Q := DW.rk Tgood mixed hnt xs sl ob hq h hQ
theorem RD {cx : Cx} {Q : Exit → St → Prop} {nt : Nat} (hnt : cx.nt = nt) {ops : Array Oper} {id : Nat} {draw : Bool} {r : List Code} {sl0 : List (Nat × MV)} {ob0 : List (Nat × Obj)} (xs : List Orc) (ds : List Nat) (us : List (Nat × MV)) (dk : List Nat) (uo : List (Nat × Obj))
    {q : Prop} (hq : q) (hQ : DW Tryz.prog cx r (Ao (up ds us sl0) (up dk uo ob0)) Q) (h : Uo Tryz.prog Tt nt ops xs (Db (up ds us sl0)) (Db (up dk uo ob0)) draw (Ao sl0 ob0) = some ((up ds us sl0,up dk uo ob0),q) := by kernel_rfl) : DW Tryz.prog cx (.region id ops draw :: r) (Ao sl0 ob0) Q := DW.rd Tgood mixed hnt xs ds us dk uo hq hQ h
theorem SO {f : FuncId} {fn : Func} {c : Code} (hf : Tryz.prog.funcs[f]? = some fn) (hb : fn.body = some c)
    {args : List MV} {outs : List Body} {res : MV} {outs' news : List Body} (hlen : outs'.length = outs.length)
    (sl : List (Nat × MV)) (ob : List (Nat × Obj)) (hd : ∀ cx : Cx,cx.nt = fn.ntmps → DW Tryz.prog cx [c] (Ao sl ob) (finQ Tt fn.results.toList outs.length res (outs' ++ news)))
    (hname : fn.name ≠ "runtime.NumGoroutine" := by decide) (hle : Nat.ble args.length fn.ntmps = true := by rfl) (hm : Nat.ble outs.length 1000 = true := by rfl)
    (h1 : Yd (upN args.length 0) (upN outs.length 0) ⟨fun t => (args[t]?).getD .any,Ce outs⟩ = sl := by kernel_rfl)
    (h2 : Se (upN outs.length 0) ⟨fun t => (args[t]?).getD .any,Ce outs⟩ = ob := by kernel_rfl) :
    Spec Tryz.prog f args outs res outs' news := spec_of Tgood hf hname hb hlen (Nat.le_of_ble_eq_true hle) (Nat.le_of_ble_eq_true hm) h1 h2 fun cx hnt => DW.start (hd cx hnt)
theorem RN {cx : Cx} {σ : St} {Q : Exit → St → Prop} {nt : Nat} (hnt : cx.nt = nt) {ops : Array Oper} {id : Nat} {draw : Bool} {r : List Code} (xs : List Orc) (sl : List (Nat × MV)) (ob : List (Nat × Obj))
    (ps : List (Nat × MV)) (qs : List (Nat × Body)) {q : Prop} (hq : q) (h : Uo Tryz.prog Tt nt ops xs (Db sl) (Db ob) draw σ = some ((Pk ps sl,Oj qs ob),q)) (hs : SP sl ps) (ho : OP ob qs)
    (hQ : DW Tryz.prog cx r (Ao sl ob) Q) : DW Tryz.prog cx (.region id ops draw :: r) σ Q := DW.rn Tgood mixed hnt xs sl ob ps qs hq h hs ho hQ
theorem RT {cx : Cx} {σ : St} {nt : Nat} (hnt : cx.nt = nt) {ops : Array Oper} {draw : Bool} {sl : List (Nat × MV)} {ob : List (Nat × Obj)} (xs : List Orc)
    (ps : List (Nat × MV)) {q : Prop} (hq : q) (h : Uo Tryz.prog Tt nt ops xs (Db sl) (Db ob) draw σ = some ((Pk ps sl,ob),q)) (hs : SP sl ps) : RegTo Tryz.prog cx ops draw σ sl ob := RegTo.rn Tgood mixed hnt xs ps hq h hs
end Go.Dm


/- Go functions compute their models, printed by a program. -/
namespace Go.Dm
open Go.Proofs
set_option linter.unusedVariables false
theorem Ts (p0 : List Int) (RES : Bool) (hm : Wt p0 = some RES) : Spec Tryz.prog 13 [.p (slI p0)] [] (pB RES) [] [] := by
 unfold Wt at hm
 refine SO Tryz.func13 rfl rfl [(0,.p (slI p0))] [] ?_
 intro cx hnt
 refine Sq (RK hnt (.no :: []) [(0,.p (slI p0))] [] tv ?_)
 refine Sq (RK hnt (nn 4 []) [(2,pB (decide (((p0.length : Nat) : Int) ≤ 600)))] [] tv ?_)
 obtain rfl := sj hm
 exact DW.ret (Ak [] [] (pB (decide (((p0.length : Nat) : Int) ≤ 600))))
abbrev o2 (ks : List Nat) (b : Bool) (RES : Bool) : Orc := .call 13 ks b (pB RES) [] []

abbrev c5e1 := ({ id := 1,parent := 0,name := ByteArray.empty,control := 0,kind := 0,owner := 0 } : Af)
theorem AgO (RES : Ae) (hm : Aeo = some RES) : Spec Tryz.prog 106 [] [] (.agg [ow 0 RES.nodes.length,pI RES.next]) [] [Ac RES.nodes] := by
 unfold Aeo at hm
 refine SO Tryz.func106 rfl rfl [] [] ?_
 intro cx hnt
 refine Sq (RK hnt (.no :: []) [(0,rr 1000)] [(1000,bx [.p (.sl .nil 0 0 (fun _ => [])),pI 0])] tv ?_)
 refine Sq (RN hnt (nn 4 []) [(0,rr 1000)] [(1000,bx [ow 1016 [(c5e1)].length,pI 2]),(1016,ob0 (Ac [(c5e1)]))] [] [(1000,.box [ow 1016 1,pI 2]),(1016,.row 6 1 (cut 6 [vi 1,vi 0,vs ByteArray.empty,vi 0,vi 0,vi 0]))] tv (by kernel_rfl) .nil (.cons rfl (.box (.cons (MLe.ownLen (enc := An) (d := Aw) (f := (cut 6 [vi 1,vi 0,vs ByteArray.empty,vi 0,vi 0,vi 0])) (RowIs.lit (enc := An) (d := Aw) (n := 1) (f := (cut 6 [vi 1,vi 0,vs ByteArray.empty,vi 0,vi 0,vi 0])) [(c5e1)] rfl (fun | 0,_ => rfl | n + 1,h => absurd h (by omega)))) (.cons .rfl .nil))) (.cons rfl (BLe.typed (RowIs.lit (enc := An) (d := Aw) (n := 1) (f := (cut 6 [vi 1,vi 0,vs ByteArray.empty,vi 0,vi 0,vi 0])) [(c5e1)] rfl (fun | 0,_ => rfl | n + 1,h => absurd h (by omega)))) .nil)) ?_)
 obtain rfl := sj hm
 exact DW.ret (Ak [Ac [(c5e1)]] [1016] (.agg [ow 0 [(c5e1)].length,pI 2]))
abbrev o5 (ks : List Nat) (b : Bool) (RES : Ae) : Orc := .call 106 ks b (.agg [ow 0 RES.nodes.length,pI RES.next]) [] [Ac RES.nodes]

theorem To (RES : Aa) (hm : Sg = some RES) : Spec Tryz.prog 36 [] [] (.agg [ow 0 RES.tree.nodes.length,pI RES.tree.next,ow 1 RES.tasks.length,pI RES.next]) [] [Ac RES.tree.nodes,Ai RES.tasks] := by
 unfold Sg at hm
 refine SO Tryz.func36 rfl rfl [] [] ?_
 intro cx hnt
 refine Sq (RK hnt (.no :: []) [(0,rr 1000)] [(1000,bx [.p (.sl .nil 0 0 (fun _ => [])),pI 0,.p (.sl .nil 0 0 (fun _ => [])),pI 0])] tv ?_)
 obtain ⟨r1,hr1,hm⟩ := bo hm
 refine Sq (RK hnt (o5 [] true r1 :: nn 2 []) [(0,rr 1000)] [(1000,bx [ow 1008 r1.nodes.length,pI r1.next,.p (.sl .nil 0 0 (fun _ => [])),pI 1]),(1008,ob0 (Ac r1.nodes))] (an (AgO r1 hr1) tv) ?_)
 refine DW.cv [] [] [] [(1000,bx [ow 1008 r1.nodes.length,pI r1.next,ow 100000 0,pI 1]),(100000,ob0 (Ai []))] (Conv.ads [(.o 1000 2,100000,4,elems Am Ba [])]) ?_
 obtain rfl := sj hm
 exact DW.ret (Ak [Ac r1.nodes,Ai []] [1008,100000] (.agg [ow 0 r1.nodes.length,pI r1.next,ow 1 0,pI 1]))
abbrev o4 (ks : List Nat) (b : Bool) (RES : Aa) : Orc := .call 36 ks b (.agg [ow 0 RES.tree.nodes.length,pI RES.tree.next,ow 1 RES.tasks.length,pI RES.next]) [] [Ac RES.tree.nodes,Ai RES.tasks]

theorem Agb (p0 : Af) (RES : Bool) (hm : Zh p0 = some RES) : Spec Tryz.prog 167 [.p (.agg (An p0))] [] (pB RES) [] [] := by
 unfold Zh at hm
 refine SO Tryz.func167 rfl rfl [(0,.p (.agg (An p0)))] [] ?_
 intro cx hnt
 refine Sq (RK hnt (nn 2 []) [(1,rr 1008)] [(1008,bx (pm (An p0)))] tv ?_)
 refine Sq (DW.regJ (sl2 := [(2,pB ((((p0.id == 1) && (p0.parent == 0)) && (Dx p0.name ByteArray.empty)) && (p0.kind == 0)))]) (ob2 := []) ?_ ?_)
 ·rcases bt (p0.id == 1) with h1 | h1
  ·rcases bt (p0.parent == 0) with h2 | h2
   ·rcases bt (Dx p0.name ByteArray.empty) with h3 | h3
    ·exact RT hnt (nn 7 (pT :: nn 4 (pT :: nn 4 (pT :: .no :: [])))) [(2,pB (p0.kind == 0))] (an4 h1 (an4 h2 (an4 h3 tv))) (by kernel_rfl) (.cons rfl (.of_eq (by rw [h1,h2,h3]; try rfl)) .nil)
    ·exact RT hnt (nn 7 (pT :: nn 4 (pT :: .no :: sk 3 (pF :: .no :: [])))) [(2,pB false)] (an4 h1 (an4 h2 (an4 h3 tv))) (by kernel_rfl) (.cons rfl (.of_eq (by rw [h1,h2,h3]; try rfl)) .nil)
   ·exact RT hnt (nn 7 (pT :: .no :: sk 3 (pF :: .no :: sk 3 (pF :: .no :: [])))) [(2,pB false)] (an4 h1 (an4 h2 (an4 ff tv))) (by kernel_rfl) (.cons rfl (.of_eq (by rw [h1,h2]; try rfl)) .nil)
  ·exact RT hnt (nn 4 (sk 3 (pF :: .no :: sk 3 (pF :: .no :: sk 3 (pF :: .no :: []))))) [(2,pB false)] (an4 h1 (an2 ff (an6 ff tv))) (by kernel_rfl) (.cons rfl (.of_eq (by rw [h1]; try rfl)) .nil)
 ·refine DW.ret ?_
  obtain rfl := sj hm
  exact Ak [] [] (pB ((((p0.id == 1) && (p0.parent == 0)) && (Dx p0.name ByteArray.empty)) && (p0.kind == 0)))
abbrev o9 (ks : List Nat) (b : Bool) (RES : Bool) : Orc := .call 167 ks b (pB RES) [] []

theorem AfQ (p0 : Int) (RES : Bool) (hm : We p0 = some RES) : Spec Tryz.prog 236 [.p (vk .u8 p0)] [] (pB RES) [] [] := by
 unfold We at hm
 refine SO Tryz.func236 rfl rfl [(0,.p (vk .u8 p0))] [] ?_
 intro cx hnt
 refine Sq (RD hnt (.no :: []) [] [] [] [] tv ?_)
 refine Sq (DW.regJ (sl2 := [(2,pB ((((((decide (p0 ≥ 97)) && (decide (p0 ≤ 122))) || ((decide (p0 ≥ 65)) && (decide (p0 ≤ 90)))) || ((decide (p0 ≥ 48)) && (decide (p0 ≤ 57)))) || (p0 == 95)) || (p0 == 45)))]) (ob2 := []) ?_ ?_)
 ·rcases bt (decide (p0 ≥ 97)) with h1 | h1
  ·rcases bt (decide (p0 ≤ 122)) with h2 | h2
   ·exact RT hnt (nn 5 (pT :: .no :: sk 6 (pT :: .no :: sk 6 (pT :: .no :: sk 2 (pT :: .no :: sk 2 (pT :: .no :: [])))))) [(2,pB true)] (an3 h1 (an5 h2 (an5 tt (an6 tt tv)))) (by kernel_rfl) (.cons rfl (.of_eq (by rw [h1,h2]; try rfl)) .nil)
   ·rcases bt (decide (p0 ≥ 65)) with h3 | h3
    ·rcases bt (decide (p0 ≤ 90)) with h4 | h4
     ·exact RT hnt (nn 5 (pT :: nn 6 (pT :: pF :: .no :: sk 6 (pT :: .no :: sk 2 (pT :: .no :: sk 2 (pT :: .no :: [])))))) [(2,pB true)] (an3 h1 (an3 h2 (an2 h3 (an h2 (an h3 (an h2 (an5 h4 (an6 tt tv)))))))) (by kernel_rfl) (.cons rfl (.of_eq (by rw [h1,h2,h3,h4]; try rfl)) .nil)
     ·rcases bt (decide (p0 ≥ 48)) with h5 | h5
      ·rcases bt (decide (p0 ≤ 57)) with h6 | h6
       ·exact RT hnt (nn 5 (pT :: nn 6 (pT :: pF :: nn 6 (pT :: pF :: .no :: sk 2 (pT :: .no :: sk 2 (pT :: .no :: [])))))) [(2,pB true)] (an3 h1 (an3 h2 (an2 h3 (an h2 (an h3 (an h2 (an3 h4 (an2 h5 (an h4 (an h5 (an h4 (an3 h6 (an3 tt tv))))))))))))) (by kernel_rfl) (.cons rfl (.of_eq (by rw [h1,h2,h3,h4,h5,h6]; try rfl)) .nil)
       ·rcases bt (p0 == 95) with h7 | h7
        ·exact RT hnt (nn 5 (pT :: nn 6 (pT :: pF :: nn 6 (pT :: pF :: nn 3 (pF :: .no :: sk 2 (pT :: .no :: [])))))) [(2,pB true)] (an3 h1 (an3 h2 (an2 h3 (an h2 (an h3 (an h2 (an3 h4 (an2 h5 (an h4 (an h5 (an h4 (an3 h6 (an3 h7 tv))))))))))))) (by kernel_rfl) (.cons rfl (.of_eq (by rw [h1,h2,h3,h4,h5,h6,h7]; try rfl)) .nil)
        ·exact RT hnt (nn 5 (pT :: nn 6 (pT :: pF :: nn 6 (pT :: pF :: nn 3 (pF :: nn 3 (pF :: .no :: [])))))) [(2,pB (p0 == 45))] (an3 h1 (an3 h2 (an2 h3 (an h2 (an h3 (an h2 (an3 h4 (an2 h5 (an h4 (an h5 (an h4 (an3 h6 (an3 h7 tv))))))))))))) (by kernel_rfl) (.cons rfl (.of_eq (by rw [h1,h2,h3,h4,h5,h6,h7]; try rfl)) .nil)
      ·rcases bt (p0 == 95) with h8 | h8
       ·exact RT hnt (nn 5 (pT :: nn 6 (pT :: pF :: nn 4 (sk 2 (pF :: pF :: nn 3 (pF :: .no :: sk 2 (pT :: .no :: []))))))) [(2,pB true)] (an3 h1 (an3 h2 (an2 h3 (an h2 (an h3 (an h2 (an3 h4 (an2 h5 (an h4 (an h5 (an h4 (an3 ff (an3 h8 tv))))))))))))) (by kernel_rfl) (.cons rfl (.of_eq (by rw [h1,h2,h3,h4,h5,h8]; try rfl)) .nil)
       ·exact RT hnt (nn 5 (pT :: nn 6 (pT :: pF :: nn 4 (sk 2 (pF :: pF :: nn 3 (pF :: nn 3 (pF :: .no :: []))))))) [(2,pB (p0 == 45))] (an3 h1 (an3 h2 (an2 h3 (an h2 (an h3 (an h2 (an3 h4 (an2 h5 (an h4 (an h5 (an h4 (an3 ff (an3 h8 tv))))))))))))) (by kernel_rfl) (.cons rfl (.of_eq (by rw [h1,h2,h3,h4,h5,h8]; try rfl)) .nil)
    ·rcases bt (decide (p0 ≥ 48)) with h9 | h9
     ·rcases bt (decide (p0 ≤ 57)) with h10 | h10
      ·exact RT hnt (nn 5 (pT :: nn 4 (sk 2 (pF :: pF :: nn 6 (pT :: pF :: .no :: sk 2 (pT :: .no :: sk 2 (pT :: .no :: []))))))) [(2,pB true)] (an3 h1 (an3 h2 (an2 h3 (an h2 (an h3 (an h2 (an3 ff (an2 h9 (an ff (an h9 (an ff (an3 h10 (an3 tt tv))))))))))))) (by kernel_rfl) (.cons rfl (.of_eq (by rw [h1,h2,h3,h9,h10]; try rfl)) .nil)
      ·rcases bt (p0 == 95) with h11 | h11
       ·exact RT hnt (nn 5 (pT :: nn 4 (sk 2 (pF :: pF :: nn 6 (pT :: pF :: nn 3 (pF :: .no :: sk 2 (pT :: .no :: []))))))) [(2,pB true)] (an3 h1 (an3 h2 (an2 h3 (an h2 (an h3 (an h2 (an3 ff (an2 h9 (an ff (an h9 (an ff (an3 h10 (an3 h11 tv))))))))))))) (by kernel_rfl) (.cons rfl (.of_eq (by rw [h1,h2,h3,h9,h10,h11]; try rfl)) .nil)
       ·exact RT hnt (nn 5 (pT :: nn 4 (sk 2 (pF :: pF :: nn 6 (pT :: pF :: nn 3 (pF :: nn 3 (pF :: .no :: []))))))) [(2,pB (p0 == 45))] (an3 h1 (an3 h2 (an2 h3 (an h2 (an h3 (an h2 (an3 ff (an2 h9 (an ff (an h9 (an ff (an3 h10 (an3 h11 tv))))))))))))) (by kernel_rfl) (.cons rfl (.of_eq (by rw [h1,h2,h3,h9,h10,h11]; try rfl)) .nil)
     ·rcases bt (p0 == 95) with h12 | h12
      ·exact RT hnt (nn 5 (pT :: nn 4 (sk 2 (pF :: pF :: nn 4 (sk 2 (pF :: pF :: nn 3 (pF :: .no :: sk 2 (pT :: .no :: [])))))))) [(2,pB true)] (an3 h1 (an3 h2 (an2 h3 (an h2 (an h3 (an h2 (an3 ff (an2 h9 (an ff (an h9 (an4 ff (an3 h12 tv)))))))))))) (by kernel_rfl) (.cons rfl (.of_eq (by rw [h1,h2,h3,h9,h12]; try rfl)) .nil)
      ·exact RT hnt (nn 5 (pT :: nn 4 (sk 2 (pF :: pF :: nn 4 (sk 2 (pF :: pF :: nn 3 (pF :: nn 3 (pF :: .no :: [])))))))) [(2,pB (p0 == 45))] (an3 h1 (an3 h2 (an2 h3 (an h2 (an h3 (an h2 (an3 ff (an2 h9 (an ff (an h9 (an4 ff (an3 h12 tv)))))))))))) (by kernel_rfl) (.cons rfl (.of_eq (by rw [h1,h2,h3,h9,h12]; try rfl)) .nil)
  ·rcases bt (decide (p0 ≥ 65)) with h13 | h13
   ·rcases bt (decide (p0 ≤ 90)) with h14 | h14
    ·exact RT hnt (nn 3 (sk 2 (pF :: nn 6 (pT :: pF :: .no :: sk 6 (pT :: .no :: sk 2 (pT :: .no :: sk 2 (pT :: .no :: []))))))) [(2,pB true)] (an3 h1 (an3 ff (an2 h13 (an ff (an h13 (an ff (an5 h14 (an6 tt tv)))))))) (by kernel_rfl) (.cons rfl (.of_eq (by rw [h1,h13,h14]; try rfl)) .nil)
    ·rcases bt (decide (p0 ≥ 48)) with h15 | h15
     ·rcases bt (decide (p0 ≤ 57)) with h16 | h16
      ·exact RT hnt (nn 3 (sk 2 (pF :: nn 6 (pT :: pF :: nn 6 (pT :: pF :: .no :: sk 2 (pT :: .no :: sk 2 (pT :: .no :: []))))))) [(2,pB true)] (an3 h1 (an3 ff (an2 h13 (an ff (an h13 (an ff (an3 h14 (an2 h15 (an h14 (an h15 (an h14 (an3 h16 (an3 tt tv))))))))))))) (by kernel_rfl) (.cons rfl (.of_eq (by rw [h1,h13,h14,h15,h16]; try rfl)) .nil)
      ·rcases bt (p0 == 95) with h17 | h17
       ·exact RT hnt (nn 3 (sk 2 (pF :: nn 6 (pT :: pF :: nn 6 (pT :: pF :: nn 3 (pF :: .no :: sk 2 (pT :: .no :: []))))))) [(2,pB true)] (an3 h1 (an3 ff (an2 h13 (an ff (an h13 (an ff (an3 h14 (an2 h15 (an h14 (an h15 (an h14 (an3 h16 (an3 h17 tv))))))))))))) (by kernel_rfl) (.cons rfl (.of_eq (by rw [h1,h13,h14,h15,h16,h17]; try rfl)) .nil)
       ·exact RT hnt (nn 3 (sk 2 (pF :: nn 6 (pT :: pF :: nn 6 (pT :: pF :: nn 3 (pF :: nn 3 (pF :: .no :: []))))))) [(2,pB (p0 == 45))] (an3 h1 (an3 ff (an2 h13 (an ff (an h13 (an ff (an3 h14 (an2 h15 (an h14 (an h15 (an h14 (an3 h16 (an3 h17 tv))))))))))))) (by kernel_rfl) (.cons rfl (.of_eq (by rw [h1,h13,h14,h15,h16,h17]; try rfl)) .nil)
     ·rcases bt (p0 == 95) with h18 | h18
      ·exact RT hnt (nn 3 (sk 2 (pF :: nn 6 (pT :: pF :: nn 4 (sk 2 (pF :: pF :: nn 3 (pF :: .no :: sk 2 (pT :: .no :: [])))))))) [(2,pB true)] (an3 h1 (an3 ff (an2 h13 (an ff (an h13 (an ff (an3 h14 (an2 h15 (an h14 (an h15 (an h14 (an3 ff (an3 h18 tv))))))))))))) (by kernel_rfl) (.cons rfl (.of_eq (by rw [h1,h13,h14,h15,h18]; try rfl)) .nil)
      ·exact RT hnt (nn 3 (sk 2 (pF :: nn 6 (pT :: pF :: nn 4 (sk 2 (pF :: pF :: nn 3 (pF :: nn 3 (pF :: .no :: [])))))))) [(2,pB (p0 == 45))] (an3 h1 (an3 ff (an2 h13 (an ff (an h13 (an ff (an3 h14 (an2 h15 (an h14 (an h15 (an h14 (an3 ff (an3 h18 tv))))))))))))) (by kernel_rfl) (.cons rfl (.of_eq (by rw [h1,h13,h14,h15,h18]; try rfl)) .nil)
   ·rcases bt (decide (p0 ≥ 48)) with h19 | h19
    ·rcases bt (decide (p0 ≤ 57)) with h20 | h20
     ·exact RT hnt (nn 3 (sk 2 (pF :: nn 4 (sk 2 (pF :: pF :: nn 6 (pT :: pF :: .no :: sk 2 (pT :: .no :: sk 2 (pT :: .no :: [])))))))) [(2,pB true)] (an3 h1 (an3 ff (an2 h13 (an ff (an h13 (an4 ff (an2 h19 (an ff (an h19 (an ff (an3 h20 (an3 tt tv)))))))))))) (by kernel_rfl) (.cons rfl (.of_eq (by rw [h1,h13,h19,h20]; try rfl)) .nil)
     ·rcases bt (p0 == 95) with h21 | h21
      ·exact RT hnt (nn 3 (sk 2 (pF :: nn 4 (sk 2 (pF :: pF :: nn 6 (pT :: pF :: nn 3 (pF :: .no :: sk 2 (pT :: .no :: [])))))))) [(2,pB true)] (an3 h1 (an3 ff (an2 h13 (an ff (an h13 (an4 ff (an2 h19 (an ff (an h19 (an ff (an3 h20 (an3 h21 tv)))))))))))) (by kernel_rfl) (.cons rfl (.of_eq (by rw [h1,h13,h19,h20,h21]; try rfl)) .nil)
      ·exact RT hnt (nn 3 (sk 2 (pF :: nn 4 (sk 2 (pF :: pF :: nn 6 (pT :: pF :: nn 3 (pF :: nn 3 (pF :: .no :: [])))))))) [(2,pB (p0 == 45))] (an3 h1 (an3 ff (an2 h13 (an ff (an h13 (an4 ff (an2 h19 (an ff (an h19 (an ff (an3 h20 (an3 h21 tv)))))))))))) (by kernel_rfl) (.cons rfl (.of_eq (by rw [h1,h13,h19,h20,h21]; try rfl)) .nil)
    ·rcases bt (p0 == 95) with h22 | h22
     ·exact RT hnt (nn 3 (sk 2 (pF :: nn 4 (sk 2 (pF :: pF :: nn 4 (sk 2 (pF :: pF :: nn 3 (pF :: .no :: sk 2 (pT :: .no :: []))))))))) [(2,pB true)] (an3 h1 (an3 ff (an2 h13 (an ff (an h13 (an4 ff (an2 h19 (an ff (an h19 (an4 ff (an3 h22 tv))))))))))) (by kernel_rfl) (.cons rfl (.of_eq (by rw [h1,h13,h19,h22]; try rfl)) .nil)
     ·exact RT hnt (nn 3 (sk 2 (pF :: nn 4 (sk 2 (pF :: pF :: nn 4 (sk 2 (pF :: pF :: nn 3 (pF :: nn 3 (pF :: .no :: []))))))))) [(2,pB (p0 == 45))] (an3 h1 (an3 ff (an2 h13 (an ff (an h13 (an4 ff (an2 h19 (an ff (an h19 (an4 ff (an3 h22 tv))))))))))) (by kernel_rfl) (.cons rfl (.of_eq (by rw [h1,h13,h19,h22]; try rfl)) .nil)
 ·refine DW.ret ?_
  obtain rfl := sj hm
  exact Ak [] [] (pB ((((((decide (p0 ≥ 97)) && (decide (p0 ≤ 122))) || ((decide (p0 ≥ 65)) && (decide (p0 ≤ 90)))) || ((decide (p0 ≥ 48)) && (decide (p0 ≤ 57)))) || (p0 == 95)) || (p0 == 45)))
abbrev o12 (ks : List Nat) (b : Bool) (RES : Bool) : Orc := .call 236 ks b (pB RES) [] []

theorem Tr (p0 : ByteArray) (RES : Bool) (hm : Tf p0 = some RES) : Spec Tryz.prog 210 [pS p0] [] (pB RES) [] [] := by
 unfold Tf at hm
 refine SO Tryz.func210 rfl rfl [(0,pS p0)] [] ?_
 intro cx hnt
 refine Sq (RK hnt (.no :: []) [(0,pS p0)] [] tv ?_)
 refine Sq (Sq (RN hnt (nn 4 []) [(0,pS p0),(6,.p (Oz 1 (encK .u8) 0 (Il p0))),(7,pI ((p0.size : Nat) : Int)),(8,pI 0)] [] [(6,.p (.sl .unk 1 p0.size (AaH p0)))] [] tv (by kernel_rfl) (.cons rfl (MLe.typed RowIs.bytes) .nil) .nil ?_))
 refine Bk ?_
 obtain ⟨hc1,hm⟩ := go1 hm
 refine DW.rangeO (fun (k1 : Nat) (s1 : Unit) => Ao [(0,pS p0),(6,.p (Oz 1 (encK .u8) 0 (Il p0))),(7,pI ((p0.size : Nat) : Int)),(8,pI ((k1 : Nat) : Int))] []) 0 hm .refl ?_
 intro k1 s1 n1 hk1 hs1 he1
 refine Sq (RD hnt (.no :: []) [] [(9,pB (decide (((k1 : Nat) : Int) < ((p0.size : Nat) : Int))))] [] [] tv ?_)
 refine Sq (Cm (decide (((k1 : Nat) : Int) < ((p0.size : Nat) : Int))) ?_ ?_)
 ·intro h15
  have hlt1 : k1 < (Il p0).length := by have := of_decide_eq_true h15; have := Oo p0; omega
  have hm := hs1 hlt1
  unfold Xx at hm
  refine Sk ?_
  refine Sq (Bk ?_)
  refine Sq (RD hnt (nn 3 []) [9] [(4,.p (vk .u8 ((Il p0).getD k1 0)))] [] [] (an (nn0 k1) (an (ltc hlt1) tv)) ?_)
  obtain ⟨r16,hr16,hm⟩ := bo hm
  refine Sq (RD hnt (.no :: o12 [] true r16 :: .no :: []) [4] [(14,pB (!r16))] [] [] (an (AfQ ((Il p0).getD k1 0) r16 hr16) tv) ?_)
  refine Ag hm ?_ ?_
  ·intro h17 hm
   refine Sq (RK hnt (.no :: []) [(2,pB false)] [] tv ?_)
   obtain rfl := sj hm
   exact DW.ret (Ak [] [] (pB false))
  ·intro h17 hm
   refine Sk ?_
   refine DW.done ?_
   show DW _ _ _ _ _
   refine RD hnt (nn 2 []) [14] [(8,pI (w64 (((k1 : Nat) : Int) + 1)))] [] [] tv ?_
   exact jD () ⟨hlt1,hm⟩ (Conv.tp [(8,pI (w64 (((k1 : Nat) : Int) + 1)))] [] (by kernel_rfl) (.cons rfl (.of_eq (congrArg pI (Br hlt1 hc1))) .nil) .nil)
 ·intro h15
  have hge1 : ¬ k1 < (Il p0).length := by have := of_decide_eq_false h15; have := Oo p0; omega
  have hm := he1 hge1
  unfold Yu at hm
  refine DW.exit ?_
  refine Ar ?_
  refine Au ?_
  refine Ap ?_
  show DW _ _ _ _ _
  refine Sq ?_
  refine Jn (ι := Bool) (fun (y3 : Bool) => Ao [(2,pB y3)] []) (fun y3 => Ni y3 = some RES) ?_ ?_
  ·intro y3 hm
   unfold Ni at hm
   obtain rfl := sj hm
   exact DW.ret (Ak [] [] (pB y3))
  ·rcases bt (!(Dx p0 ByteArray.empty)) with h18 | h18
   ·replace hm := Bg h18 hm
    rcases bt (decide (((p0.size : Nat) : Int) ≤ 32)) with h19 | h19
    ·replace hm := Bg h19 hm
     obtain ⟨g20,hm⟩ := go1 hm
     refine RK hnt (nn 6 (pT :: nn 4 (pT :: .no :: []))) [(2,pB ((((Bl p0 0) : Nat) : Int) != 45))] [] (an4 h18 (an2 h19 (an (nn0 0) (an (ltc g20) (an2 h19 tv))))) ?_
     exact jD ((((Bl p0 0) : Nat) : Int) != 45) hm .refl
    ·replace hm := Bh h19 hm
     refine RK hnt (nn 6 (pT :: .no :: sk 3 (pF :: .no :: []))) [(2,pB false)] [] (an4 h18 (an4 h19 tv)) ?_
     exact jD false hm .refl
   ·replace hm := Bh h18 hm
    refine RK hnt (nn 3 (sk 3 (pF :: .no :: sk 3 (pF :: .no :: [])))) [(2,pB false)] [] (an4 h18 (an4 ff tv)) ?_
    exact jD false hm .refl
abbrev o11 (ks : List Nat) (b : Bool) (RES : Bool) : Orc := .call 210 ks b (pB RES) [] []

abbrev Ul (p0 : List Af) (k1 : Nat) := (p0.getD k1 (default : Af))
abbrev c10e2 (p1 : Af) : Nat × Obj := (1024,bx (pm (An p1)))
theorem Agn (p0 : List Af) (p1 : Af) (RES : Bool) (hm : Uz p0 p1 = some RES) : Spec Tryz.prog 168 [.p (Cz p0),.p (.agg (An p1))] [] (pB RES) [] [] := by
 unfold Uz at hm
 refine SO Tryz.func168 rfl rfl [(0,.p (Cz p0)),(1,.p (.agg (An p1)))] [] ?_
 intro cx hnt
 refine Sq (RD hnt (nn 2 []) [1] [(3,rr 1024)] [] [(c10e2 p1)] tv ?_)
 obtain ⟨g1,hm⟩ := go1 hm
 refine Sq (Sq ?_)
 refine Jn (ι := Bool) (fun (y1 : Bool) => Ao [(0,.p (Cz p0)),(3,rr 1024),(33,pB y1)] [(c10e2 p1)]) (fun y1 => (Jm p0 p1) y1 = some RES) ?_ ?_
 ·intro y1 hm
  unfold Jm at hm
  refine Ag hm ?_ ?_
  ·intro h6 hm
   refine Sq (RK hnt (.no :: []) [(4,pB false)] [] tv ?_)
   obtain rfl := sj hm
   exact DW.ret (Ak [] [] (pB false))
  ·intro h6 hm
   refine Sk ?_
   refine Sq (RD hnt (.no :: []) [33] [(5,pB false)] [] [] tv ?_)
   refine Sq (Sq (RD hnt (nn 3 []) [0] [(34,.p (Cz p0)),(35,pI ((p0.length : Nat) : Int)),(36,pI 0)] [] [] tv ?_))
   refine Bk ?_
   obtain ⟨hc1,hm⟩ := go1 hm
   refine DW.rangeO (fun (k1 : Nat) (s1 : Bool) => Ao [(3,rr 1024),(5,pB s1),(34,.p (Cz p0)),(35,pI ((p0.length : Nat) : Int)),(36,pI ((k1 : Nat) : Int))] [(c10e2 p1)]) Aw hm Conv.eqK ?_
   intro k1 s1 n1 hk1 hs1 he1
   refine Sq (RD hnt (.no :: []) [] [(37,pB (decide (((k1 : Nat) : Int) < ((p0.length : Nat) : Int))))] [] [] tv ?_)
   refine Sq (Cm (decide (((k1 : Nat) : Int) < ((p0.length : Nat) : Int))) ?_ ?_)
   ·intro h16
    have hlt1 : k1 < p0.length := by have := of_decide_eq_true h16; omega
    have hm := hs1 hlt1
    unfold Aay at hm
    refine Sk ?_
    refine Sq (Bk ?_)
    refine Sq (RD hnt (nn 4 []) [37] [(7,rr 1056)] [] [(1056,bx (pm (An (Ul p0 k1))))] (an (nn0 k1) (an (ltc hlt1) tv)) ?_)
    refine Sq (DW.regJ (sl2 := [(3,rr 1024),(5,pB (s1 || ((Ul p0 k1).id == p1.parent))),(7,rr 1056),(34,.p (Cz p0)),(35,pI ((p0.length : Nat) : Int)),(36,pI ((k1 : Nat) : Int))]) (ob2 := [(c10e2 p1),(1056,bx (pm (An (Ul p0 k1))))]) ?_ ?_)
    ·rcases bt s1 with h17 | h17
     ·exact RT hnt (nn 2 (sk 5 (pT :: .no :: []))) [(5,pB true)] (an6 h17 tv) (by kernel_rfl) (.cons rfl (.of_eq (by rw [h17]; try rfl)) .nil)
     ·exact RT hnt (nn 7 (pF :: .no :: [])) [(5,pB ((Ul p0 k1).id == p1.parent))] (an6 h17 tv) (by kernel_rfl) (.cons rfl (.of_eq (by rw [h17]; try rfl)) .nil)
    ·refine Sq (DW.regJ (sl2 := [(3,rr 1024),(5,pB (s1 || ((Ul p0 k1).id == p1.parent))),(34,.p (Cz p0)),(35,pI ((p0.length : Nat) : Int)),(36,pI ((k1 : Nat) : Int)),(59,pB (((Ul p0 k1).parent == p1.parent) && (Dx (Ul p0 k1).name p1.name)))]) (ob2 := [(c10e2 p1)]) ?_ ?_)
     ·rcases bt ((Ul p0 k1).parent == p1.parent) with h18 | h18
      ·exact RT hnt (nn 11 (pT :: [])) [(59,pB (Dx (Ul p0 k1).name p1.name))] (an6 h18 tv) (by kernel_rfl) (.cons rfl (.of_eq (by rw [h18]; try rfl)) .nil)
      ·exact RT hnt (nn 6 (sk 5 (pF :: []))) [(59,pB false)] (an6 h18 tv) (by kernel_rfl) (.cons rfl (.of_eq (by rw [h18]; try rfl)) .nil)
     ·refine Ag hm ?_ ?_
      ·intro h19 hm
       refine Sq (RK hnt (.no :: []) [(4,pB false)] [] tv ?_)
       obtain rfl := sj hm
       exact DW.ret (Ak [] [] (pB false))
      ·intro h19 hm
       refine Sk ?_
       refine DW.done ?_
       show DW _ _ _ _ _
       refine RD hnt (nn 2 []) [59] [(36,pI (w64 (((k1 : Nat) : Int) + 1)))] [] [] tv ?_
       exact jD (s1 || ((Ul p0 k1).id == p1.parent)) ⟨hlt1,hm⟩ (Conv.tp [(36,pI (w64 (((k1 : Nat) : Int) + 1)))] [] (by kernel_rfl) (.cons rfl (.of_eq (congrArg pI (Br hlt1 hc1))) .nil) .nil)
   ·intro h16
    have hge1 : ¬ k1 < p0.length := by have := of_decide_eq_false h16; omega
    have hm := he1 hge1
    unfold AdF at hm
    refine DW.exit ?_
    refine Ar ?_
    refine Au ?_
    refine Ap ?_
    show DW _ _ _ _ _
    refine Sq (RK hnt (nn 2 []) [(4,pB s1)] [] tv ?_)
    obtain rfl := sj hm
    exact DW.ret (Ak [] [] (pB s1))
 ·rcases bt (decide (p1.id ≤ (p0.getD (Int.toNat (w64 (((p0.length : Nat) : Int) - 1))) Aw).id)) with h2 | h2
  ·replace hm := Bg h2 hm
   refine RD hnt (nn 11 (sk 4 (pT :: .no :: sk 8 (pT :: [])))) [] [(33,pB true)] [] [] (an g1.1 (an g1.2 (an5 h2 (an6 tt tv)))) ?_
   exact jD true hm Conv.eqK
  ·replace hm := Bh h2 hm
   obtain ⟨r3,hr3,hm⟩ := bo hm
   rcases bt (!r3) with h4 | h4
   ·replace hm := Bg h4 hm
    refine RD hnt (nn 13 (o11 [] true r3 :: .no :: pF :: .no :: sk 8 (pT :: []))) [] [(33,pB true)] [] [] (an g1.1 (an g1.2 (an3 h2 (an (Tr p1.name r3 hr3) (an2 h2 (an6 h4 tv)))))) ?_
    exact jD true hm Conv.eqK
   ·replace hm := Bh h4 hm
    rcases bt (p1.kind != 0) with h5 | h5
    ·replace hm := Bg h5 hm
     refine RD hnt (nn 13 (o11 [] true r3 :: .no :: pF :: nn 8 (pT :: pF :: []))) [] [(33,pB (p1.kind != 1))] [] [] (an g1.1 (an g1.2 (an3 h2 (an (Tr p1.name r3 hr3) (an2 h2 (an4 h4 (an3 h5 (an h4 (an h5 (an h4 tv)))))))))) ?_
     exact jD (p1.kind != 1) hm Conv.eqK
    ·replace hm := Bh h5 hm
     refine RD hnt (nn 13 (o11 [] true r3 :: .no :: pF :: nn 5 (sk 3 (pF :: pF :: [])))) [] [(33,pB false)] [] [] (an g1.1 (an g1.2 (an3 h2 (an (Tr p1.name r3 hr3) (an2 h2 (an4 h4 (an3 h5 (an h4 (an h5 (an h4 tv)))))))))) ?_
     exact jD false hm Conv.eqK
abbrev o10 (ks : List Nat) (b : Bool) (RES : Bool) : Orc := .call 168 ks b (pB RES) [] []

abbrev Oy (p0 : Ae) (k1 : Nat) := (p0.nodes.getD k1 (default : Af))
abbrev c8e2 (s1 : IMap Int) (p0 : Ae) (k1 : Nat) := (s1.set (Oy p0 k1).id (w64 ((s1.get (Oy p0 k1).parent) + 1)))
abbrev c8e3 (p0 : Ae) : Nat × MV := (27,pI ((p0.nodes.length : Nat) : Int))
abbrev c8e4 (p0 : Ae) : Nat × Obj := (1008,bx (pm (Aq p0)))
theorem AfL (p0 : Ae) (RES : Bool) (hm : Tm p0 = some RES) : Spec Tryz.prog 92 [.p (.agg (Aq p0))] [] (pB RES) [] [] := by
 unfold Tm at hm
 refine SO Tryz.func92 rfl rfl [(0,.p (.agg (Aq p0)))] [] ?_
 intro cx hnt
 refine Sq (RK hnt (nn 2 []) [(1,rr 1008)] [(c8e4 p0)] tv ?_)
 refine Sq (Sq ?_)
 refine Jn (ι := Bool) (fun (y1 : Bool) => Ao [(1,rr 1008),(23,pB y1)] [(c8e4 p0)]) (fun y1 => (Nl p0) y1 = some RES) ?_ ?_
 ·intro y1 hm
  unfold Nl at hm
  refine Ag hm ?_ ?_
  ·intro h5 hm
   refine Sq (RK hnt (.no :: []) [(2,pB false)] [] tv ?_)
   obtain rfl := sj hm
   exact DW.ret (Ak [] [] (pB false))
  ·intro h5 hm
   refine Sk ?_
   refine Sq (RD hnt (nn 2 []) [23] [(3,.mref 1192 0)] [] [(1192,ob0 (mapOf vi (vi 0) (IMap.empty 0)))] tv ?_)
   refine Sq (Sq (RD hnt (nn 4 []) [] [(26,.p (Cz p0.nodes)),(c8e3 p0),(28,pI 0)] [] [] tv ?_))
   refine Bk ?_
   obtain ⟨hc1,hm⟩ := go1 hm
   refine DW.rangeO (fun (k1 : Nat) (s1 : IMap Int) => Ao [(1,rr 1008),(3,.mref 1192 0),(26,.p (Cz p0.nodes)),(c8e3 p0),(28,pI ((k1 : Nat) : Int))] [(c8e4 p0),(1192,ob0 (mapOf vi (vi 0) s1))]) Aw hm Conv.eqK ?_
   intro k1 s1 n1 hk1 hs1 he1
   refine Sq (RD hnt (.no :: []) [] [(29,pB (decide (((k1 : Nat) : Int) < ((p0.nodes.length : Nat) : Int))))] [] [] tv ?_)
   refine Sq (Cm (decide (((k1 : Nat) : Int) < ((p0.nodes.length : Nat) : Int))) ?_ ?_)
   ·intro h36
    have hlt1 : k1 < p0.nodes.length := by have := of_decide_eq_true h36; omega
    have hm := hs1 hlt1
    unfold Yj at hm
    refine Sk ?_
    refine Sq (Bk ?_)
    refine Sq (RD hnt (nn 6 []) [29] [(4,pI ((k1 : Nat) : Int)),(5,rr 1040)] [] [(1040,bx (pm (An (Oy p0 k1))))] (an (nn0 k1) (an (ltc hlt1) tv)) ?_)
    refine Sq (Sq ?_)
    refine Jn (ι := Bool) (fun (y8 : Bool) => Ao [(1,rr 1008),(3,.mref 1192 0),(4,pI ((k1 : Nat) : Int)),(5,rr 1040),(26,.p (Cz p0.nodes)),(c8e3 p0),(28,pI ((k1 : Nat) : Int)),(64,pB y8)] [(c8e4 p0),(1040,bx (pm (An (Oy p0 k1)))),(1192,ob0 (mapOf vi (vi 0) s1))]) (fun y8 => (Gw k1 (Oy p0 k1) s1 n1) y8 = some RES) ?_ ?_
    ·intro y8 hm
     unfold Gw at hm
     refine Ag hm ?_ ?_
     ·intro h44 hm
      refine Sq (RK hnt (.no :: []) [(2,pB false)] [] tv ?_)
      obtain rfl := sj hm
      exact DW.ret (Ak [] [] (pB false))
     ·intro h44 hm
      refine Sk ?_
      refine Sq (Sq (RD hnt (nn 2 []) [4,64] [(66,pB (decide (((k1 : Nat) : Int) > 0)))] [] [] tv ?_))
      refine Jn (ι := IMap Int) (fun (y9 : IMap Int) => Ao [(1,rr 1008),(3,.mref 1192 0),(5,rr 1040),(26,.p (Cz p0.nodes)),(c8e3 p0),(28,pI ((k1 : Nat) : Int))] [(c8e4 p0),(1040,bx (pm (An (Oy p0 k1)))),(1192,ob0 (mapOf vi (vi 0) y9))]) (fun y9 => (Pp (Oy p0 k1) n1) y9 = some RES) ?_ ?_
      ·intro y9 hm
       unfold Pp at hm
       refine Sq (RD hnt (nn 5 []) [5] [(79,pB (decide ((y9.get (Oy p0 k1).id) > 8)))] [1040] [] (an (rfl : vi 0 = vi 0) tv) ?_)
       refine Ag hm ?_ ?_
       ·intro h46 hm
        refine Sq (RK hnt (.no :: []) [(2,pB false)] [] tv ?_)
        obtain rfl := sj hm
        exact DW.ret (Ak [] [] (pB false))
       ·intro h46 hm
        refine Sk ?_
        refine DW.done ?_
        show DW _ _ _ _ _
        refine RD hnt (nn 2 []) [79] [(28,pI (w64 (((k1 : Nat) : Int) + 1)))] [] [] tv ?_
        exact jD y9 ⟨hlt1,hm⟩ (Conv.tp [(28,pI (w64 (((k1 : Nat) : Int) + 1)))] [] (by kernel_rfl) (.cons rfl (.of_eq (congrArg pI (Br hlt1 hc1))) .nil) .nil)
      ·refine Ag hm ?_ ?_
       ·intro h45 hm
        refine RD hnt (nn 8 (.asM (c8e2 s1 p0 k1).has (fun j => vi ((c8e2 s1 p0 k1).get j)) :: [])) [66] [] [] [(1192,ob0 (mapOf vi (vi 0) (c8e2 s1 p0 k1)))] (an (rfl : vi 0 = vi 0) (an (mset_has s1 (Oy p0 k1).id (w64 ((s1.get (Oy p0 k1).parent) + 1))) (an (mset_get vi s1 (Oy p0 k1).id (w64 ((s1.get (Oy p0 k1).parent) + 1))) tv))) ?_
        exact jD (c8e2 s1 p0 k1) hm Conv.eqK
       ·intro h45 hm
        refine Sk ?_
        exact jD s1 hm Conv.t0
    ·rcases bt (decide ((Oy p0 k1).control < 0)) with h37 | h37
     ·replace hm := Bg h37 hm
      refine RD hnt (nn 4 (sk 4 (pT :: .no :: sk 3 (pT :: .no :: sk 3 (pT :: .no :: sk 11 (pT :: [])))))) [] [(64,pB true)] [] [] (an5 h37 (an tt (an6 tt (an6 tt tv)))) ?_
      exact jD true hm Conv.eqK
     ·replace hm := Bh h37 hm
      rcases bt ((Ej .i64 (Oy p0 k1).control 31) != 0) with h38 | h38
      ·replace hm := Bg h38 hm
       refine RD hnt (nn 8 (pF :: .no :: sk 3 (pT :: .no :: sk 3 (pT :: .no :: sk 11 (pT :: []))))) [] [(64,pB true)] [] [] (an5 h37 (an4 h38 (an3 tt (an6 tt tv)))) ?_
       exact jD true hm Conv.eqK
      ·replace hm := Bh h38 hm
       rcases bt (decide ((Oy p0 k1).owner < 0)) with h39 | h39
       ·replace hm := Bg h39 hm
        refine RD hnt (nn 8 (pF :: nn 4 (pF :: .no :: sk 3 (pT :: .no :: sk 11 (pT :: []))))) [] [(64,pB true)] [] [] (an5 h37 (an4 h38 (an4 h39 (an5 tt tv)))) ?_
        exact jD true hm Conv.eqK
       ·replace hm := Bh h39 hm
        rcases bt (decide ((Oy p0 k1).owner > 1048576)) with h40 | h40
        ·replace hm := Bg h40 hm
         refine RD hnt (nn 8 (pF :: nn 4 (pF :: nn 4 (pF :: .no :: sk 11 (pT :: []))))) [] [(64,pB true)] [] [] (an5 h37 (an4 h38 (an4 h39 (an5 h40 tv)))) ?_
         exact jD true hm Conv.eqK
        ·replace hm := Bh h40 hm
         rcases bt (decide (((k1 : Nat) : Int) > 0)) with h41 | h41
         ·replace hm := Bg h41 hm
          obtain ⟨g42,hm⟩ := go1 hm
          obtain ⟨r43,hr43,hm⟩ := bo hm
          refine RD hnt (nn 8 (pF :: nn 4 (pF :: nn 4 (pF :: nn 9 (o10 [] true r43 :: .no :: pT :: pF :: []))))) [] [(64,pB (!r43))] [] [] (an5 h37 (an4 h38 (an4 h39 (an3 h40 (an4 h41 (an (by omega : (0 : Int) ≤ 0) (an (by omega : (0 : Int) ≤ ((k1 : Nat) : Int)) (an (by omega : ((k1 : Nat) : Int) ≤ ((p0.nodes.length : Nat) : Int)) (an2 h41 (an (Spec.args (xs := [.p (.sl .unk 6 k1 (Fz p0.nodes)),.p (.agg (An (Oy p0 k1)))]) (Agn (p0.nodes.take k1) (Oy p0 k1) r43 hr43) (.cons (.p (PLe.typed (RowIs.elems.take (by omega)))) (.cons .rfl .nil))) (an h41 (an h40 (an h41 (an h40 tv)))))))))))))) ?_
          exact jD (!r43) hm Conv.eqK
         ·replace hm := Bh h41 hm
          refine RD hnt (nn 8 (pF :: nn 4 (pF :: nn 4 (pF :: nn 4 (sk 7 (pF :: pF :: [])))))) [] [(64,pB false)] [] [] (an5 h37 (an4 h38 (an4 h39 (an3 h40 (an h41 (an6 h41 (an h40 (an h41 (an h40 tv))))))))) ?_
          exact jD false hm Conv.eqK
   ·intro h36
    have hge1 : ¬ k1 < p0.nodes.length := by have := of_decide_eq_false h36; omega
    have hm := he1 hge1
    unfold Xi at hm
    refine DW.exit ?_
    refine Ar ?_
    refine Au ?_
    refine Ap ?_
    show DW _ _ _ _ _
    obtain ⟨g47,hm⟩ := go1 hm
    refine Sq ?_
    refine Jn (ι := Bool) (fun (y10 : Bool) => Ao [(2,pB y10)] []) (fun y10 => Oh y10 = some RES) ?_ ?_
    ·intro y10 hm
     unfold Oh at hm
     obtain rfl := sj hm
     exact DW.ret (Ak [] [] (pB y10))
    ·rcases bt (decide (p0.next > (p0.nodes.getD (Int.toNat (w64 (((p0.nodes.length : Nat) : Int) - 1))) Aw).id)) with h48 | h48
     ·replace hm := Bg h48 hm
      refine RK hnt (nn 16 (pT :: .no :: [])) [(2,pB (decide (p0.next ≤ 2147483648)))] [] (an g47.1 (an g47.2 (an4 h48 tv))) ?_
      exact jD (decide (p0.next ≤ 2147483648)) hm .refl
     ·replace hm := Bh h48 hm
      refine RK hnt (nn 13 (sk 3 (pF :: .no :: []))) [(2,pB false)] [] (an g47.1 (an g47.2 (an4 h48 tv))) ?_
      exact jD false hm .refl
 ·rcases bt (decide (((p0.nodes.length : Nat) : Int) < 1)) with h1 | h1
  ·replace hm := Bg h1 hm
   refine RD hnt (nn 5 (sk 4 (pT :: .no :: sk 6 (pT :: [])))) [] [(23,pB true)] [] [] (an5 h1 (an tt (an6 tt tv))) ?_
   exact jD true hm Conv.eqK
  ·replace hm := Bh h1 hm
   rcases bt (decide (((p0.nodes.length : Nat) : Int) > 64)) with h2 | h2
   ·replace hm := Bg h2 hm
    refine RD hnt (nn 9 (pF :: .no :: sk 6 (pT :: []))) [] [(23,pB true)] [] [] (an5 h1 (an h2 (an6 h2 tv))) ?_
    exact jD true hm Conv.eqK
   ·replace hm := Bh h2 hm
    obtain ⟨g3,hm⟩ := go1 hm
    obtain ⟨r4,hr4,hm⟩ := bo hm
    refine RD hnt (nn 9 (pF :: nn 5 (o9 [] true r4 :: .no :: pF :: []))) [] [(23,pB (!r4))] [] [] (an5 h1 (an3 h2 (an (nn0 0) (an (ltc g3) (an2 h2 (an (Agb (p0.nodes.getD 0 Aw) r4 hr4) (an2 h2 tv))))))) ?_
    exact jD (!r4) hm Conv.eqK
abbrev o8 (ks : List Nat) (b : Bool) (RES : Bool) : Orc := .call 92 ks b (pB RES) [] []

theorem Agk (p0 : Aj) (p1 : Int) (RES : Bool) (hm : AcG p0 p1 = some RES) : Spec Tryz.prog 205 [.p (.agg (Am p0)),rr 0] [.box [pI p1]] (pB RES) [.box [pI p1]] [] := by
 unfold AcG at hm
 refine SO Tryz.func205 rfl rfl [(0,.p (.agg (Am p0))),(1,rr 0)] [(0,bx [pI p1])] ?_
 intro cx hnt
 refine Sq (RD hnt (nn 2 []) [0] [(2,rr 1016)] [] [(1016,bx (pm (Am p0)))] tv ?_)
 refine Sq (RK hnt (nn 5 []) [(3,pB (p0.id == p1))] [(0,bx [pI p1])] tv ?_)
 obtain rfl := sj hm
 exact DW.ret (Ak [.box [pI p1]] [] (pB (p0.id == p1)))

theorem Qs (p0 : List Aj) (p1c0 : Int) (RES : Int) (hm : Gc p0 p1c0 = some RES) : Spec Tryz.prog 204 [.p (Bt p0),.fn 205 [rr 0]] [.box [pI p1c0]] (pI RES) [.box [pI p1c0]] [] := by
 unfold Gc at hm
 refine SO Tryz.func204 rfl rfl [(0,.p (Bt p0)),(1,.fn 205 [rr 0])] [(0,bx [pI p1c0])] ?_
 intro cx hnt
 refine Sq (RD hnt (.no :: []) [] [] [] [] tv ?_)
 refine Sq (Sq (RD hnt (nn 3 []) [] [(7,pI ((p0.length : Nat) : Int)),(8,pI 0)] [] [] tv ?_))
 refine Bk ?_
 obtain ⟨hc1,hm⟩ := go1 hm
 refine DW.rangeO (fun (k1 : Nat) (s1 : Unit) => Ao [(0,.p (Bt p0)),(1,.fn 205 [rr 0]),(7,pI ((p0.length : Nat) : Int)),(8,pI ((k1 : Nat) : Int))] [(0,bx [pI p1c0])]) Ba hm Conv.eqK ?_
 intro k1 s1 n1 hk1 hs1 he1
 refine Sq (RD hnt (.no :: []) [] [(9,pB (decide (((k1 : Nat) : Int) < ((p0.length : Nat) : Int))))] [] [] tv ?_)
 refine Sq (Cm (decide (((k1 : Nat) : Int) < ((p0.length : Nat) : Int))) ?_ ?_)
 ·intro h9
  have hlt1 : k1 < p0.length := by have := of_decide_eq_true h9; omega
  have hm := hs1 hlt1
  unfold Kp at hm
  refine Sk ?_
  refine Sq (Bk ?_)
  refine Sq (RD hnt (nn 2 []) [9] [(5,pI ((k1 : Nat) : Int))] [] [] tv ?_)
  obtain ⟨r10,hr10,hm⟩ := bo hm
  refine Sq (RD hnt (nn 5 (.call 205 [0] true (pB r10) [.box [pI p1c0]] [] :: [])) [] [(16,pB r10)] [] [] (an (nn0 k1) (an (ltc hlt1) (an (Agk (p0.getD k1 (default : Aj)) p1c0 r10 hr10) (an tv tv)))) ?_)
  refine Ag hm ?_ ?_
  ·intro h11 hm
   refine Sq (RK hnt (nn 2 []) [(4,pI ((k1 : Nat) : Int))] [(0,bx [pI p1c0])] tv ?_)
   obtain rfl := sj hm
   exact DW.ret (Ak [.box [pI p1c0]] [] (pI ((k1 : Nat) : Int)))
  ·intro h11 hm
   refine Sk ?_
   refine DW.done ?_
   show DW _ _ _ _ _
   refine RD hnt (nn 2 []) [5,16] [(8,pI (w64 (((k1 : Nat) : Int) + 1)))] [] [] tv ?_
   exact jD () ⟨hlt1,hm⟩ (Conv.tp [(8,pI (w64 (((k1 : Nat) : Int) + 1)))] [] (by kernel_rfl) (.cons rfl (.of_eq (congrArg pI (Br hlt1 hc1))) .nil) .nil)
 ·intro h9
  have hge1 : ¬ k1 < p0.length := by have := of_decide_eq_false h9; omega
  have hm := he1 hge1
  unfold Kq at hm
  refine DW.exit ?_
  refine Ar ?_
  refine Au ?_
  refine Ap ?_
  show DW _ _ _ _ _
  refine Sq (RK hnt (.no :: []) [(4,pI (-1))] [(0,bx [pI p1c0])] tv ?_)
  obtain rfl := sj hm
  exact DW.ret (Ak [.box [pI p1c0]] [] (pI (-1)))

theorem Adv (p0 : Aa) (p1 : Int) (RES : Int) (hm : Wx p0 p1 = some RES) : Spec Tryz.prog 155 [.p (.agg (Ab p0)),pI p1] [] (pI RES) [] [] := by
 unfold Wx at hm
 refine SO Tryz.func155 rfl rfl [(0,.p (.agg (Ab p0))),(1,pI p1)] [] ?_
 intro cx hnt
 refine Sq (RK hnt (nn 3 []) [(2,rr 1016),(3,rr 1024)] [(1016,bx (pm (Ab p0))),(1024,bx [pI p1])] tv ?_)
 obtain ⟨r1,hr1,hm⟩ := bo hm
 refine Sq (RK hnt (nn 3 (.call 204 [1024] true (pI r1) [.box [pI p1]] [] :: .no :: [])) [(4,pI r1)] [] (an (Qs p0.tasks p1 r1 hr1) (an tv tv)) ?_)
 obtain rfl := sj hm
 exact DW.ret (Ak [] [] (pI r1))
abbrev o15 (ks : List Nat) (b : Bool) (RES : Int) : Orc := .call 155 ks b (pI RES) [] []

theorem Vv (p0 : Aa) (p1 : Int) (RES : Aj × Bool) (hm : Qg p0 p1 = some RES) : Spec Tryz.prog 97 [.p (.agg (Ab p0)),pI p1] [] (.p (.tup [.agg (Am RES.1),vb RES.2])) [] [] := by
 unfold Qg at hm
 refine SO Tryz.func97 rfl rfl [(0,.p (.agg (Ab p0))),(1,pI p1)] [] ?_
 intro cx hnt
 refine Sq (RK hnt (nn 3 []) [(1,pI p1),(2,rr 1016),(4,rr 1032)] [(1016,bx (pm (Ab p0))),(1032,bx [pI 0,pI 0,pI 0,pI 0])] tv ?_)
 obtain ⟨r1,hr1,hm⟩ := bo hm
 refine Sq (RD hnt (nn 2 (o15 [] true r1 :: .no :: [])) [1] [(6,pI r1)] [] [] (an (Adv p0 p1 r1 hr1) tv) ?_)
 refine Sq (Sq (RD hnt (nn 2 []) [] [(11,pB (decide (r1 < 0)))] [] [] tv ?_))
 refine Ag hm ?_ ?_
 ·intro h2 hm
  refine Sq (RD hnt (nn 3 []) [2,6,11] [(5,pB false)] [1016] [] tv ?_)
  obtain rfl := sj hm
  exact DW.ret (Ak [] [] (.p (.tup [.agg [vi 0,vi 0,vi 0,vi 0],vb false])))
 ·intro h2 hm
  refine Sk ?_
  obtain ⟨g3,hm⟩ := go1 hm
  refine Sq (RK hnt (nn 7 []) [(4,rr 1032),(5,pB true)] [(1032,bx (pm (Am (p0.tasks.getD (Int.toNat r1) Ba))))] (an g3.1 (an g3.2 tv)) ?_)
  obtain rfl := sj hm
  exact DW.ret (Ak [] [] (.p (.tup [.agg (Am (p0.tasks.getD (Int.toNat r1) Ba)),vb true])))
abbrev o14 (ks : List Nat) (b : Bool) (RES : Aj × Bool) : Orc := .call 97 ks b (.p (.tup [.agg (Am RES.1),vb RES.2])) [] []

theorem AeT (p0 : Af) (p1 : Int) (RES : Bool) (hm : Aap p0 p1 = some RES) : Spec Tryz.prog 203 [.p (.agg (An p0)),rr 0] [.box [pI p1]] (pB RES) [.box [pI p1]] [] := by
 unfold Aap at hm
 refine SO Tryz.func203 rfl rfl [(0,.p (.agg (An p0))),(1,rr 0)] [(0,bx [pI p1])] ?_
 intro cx hnt
 refine Sq (RD hnt (nn 2 []) [0] [(2,rr 1016)] [] [(1016,bx (pm (An p0)))] tv ?_)
 refine Sq (RK hnt (nn 5 []) [(3,pB (p0.id == p1))] [(0,bx [pI p1])] tv ?_)
 obtain rfl := sj hm
 exact DW.ret (Ak [.box [pI p1]] [] (pB (p0.id == p1)))

theorem Pg (p0 : List Af) (p1c0 : Int) (RES : Int) (hm : Fp p0 p1c0 = some RES) : Spec Tryz.prog 202 [.p (Cz p0),.fn 203 [rr 0]] [.box [pI p1c0]] (pI RES) [.box [pI p1c0]] [] := by
 unfold Fp at hm
 refine SO Tryz.func202 rfl rfl [(0,.p (Cz p0)),(1,.fn 203 [rr 0])] [(0,bx [pI p1c0])] ?_
 intro cx hnt
 refine Sq (RD hnt (.no :: []) [] [] [] [] tv ?_)
 refine Sq (Sq (RD hnt (nn 3 []) [] [(7,pI ((p0.length : Nat) : Int)),(8,pI 0)] [] [] tv ?_))
 refine Bk ?_
 obtain ⟨hc1,hm⟩ := go1 hm
 refine DW.rangeO (fun (k1 : Nat) (s1 : Unit) => Ao [(0,.p (Cz p0)),(1,.fn 203 [rr 0]),(7,pI ((p0.length : Nat) : Int)),(8,pI ((k1 : Nat) : Int))] [(0,bx [pI p1c0])]) Aw hm Conv.eqK ?_
 intro k1 s1 n1 hk1 hs1 he1
 refine Sq (RD hnt (.no :: []) [] [(9,pB (decide (((k1 : Nat) : Int) < ((p0.length : Nat) : Int))))] [] [] tv ?_)
 refine Sq (Cm (decide (((k1 : Nat) : Int) < ((p0.length : Nat) : Int))) ?_ ?_)
 ·intro h9
  have hlt1 : k1 < p0.length := by have := of_decide_eq_true h9; omega
  have hm := hs1 hlt1
  unfold Jw at hm
  refine Sk ?_
  refine Sq (Bk ?_)
  refine Sq (RD hnt (nn 2 []) [9] [(5,pI ((k1 : Nat) : Int))] [] [] tv ?_)
  obtain ⟨r10,hr10,hm⟩ := bo hm
  refine Sq (RD hnt (nn 5 (.call 203 [0] true (pB r10) [.box [pI p1c0]] [] :: [])) [] [(16,pB r10)] [] [] (an (nn0 k1) (an (ltc hlt1) (an (AeT (p0.getD k1 (default : Af)) p1c0 r10 hr10) (an tv tv)))) ?_)
  refine Ag hm ?_ ?_
  ·intro h11 hm
   refine Sq (RK hnt (nn 2 []) [(4,pI ((k1 : Nat) : Int))] [(0,bx [pI p1c0])] tv ?_)
   obtain rfl := sj hm
   exact DW.ret (Ak [.box [pI p1c0]] [] (pI ((k1 : Nat) : Int)))
  ·intro h11 hm
   refine Sk ?_
   refine DW.done ?_
   show DW _ _ _ _ _
   refine RD hnt (nn 2 []) [5,16] [(8,pI (w64 (((k1 : Nat) : Int) + 1)))] [] [] tv ?_
   exact jD () ⟨hlt1,hm⟩ (Conv.tp [(8,pI (w64 (((k1 : Nat) : Int) + 1)))] [] (by kernel_rfl) (.cons rfl (.of_eq (congrArg pI (Br hlt1 hc1))) .nil) .nil)
 ·intro h9
  have hge1 : ¬ k1 < p0.length := by have := of_decide_eq_false h9; omega
  have hm := he1 hge1
  unfold Jx at hm
  refine DW.exit ?_
  refine Ar ?_
  refine Au ?_
  refine Ap ?_
  show DW _ _ _ _ _
  refine Sq (RK hnt (.no :: []) [(4,pI (-1))] [(0,bx [pI p1c0])] tv ?_)
  obtain rfl := sj hm
  exact DW.ret (Ak [.box [pI p1c0]] [] (pI (-1)))

theorem Vs (p0 : Ae) (p1 : Int) (RES : Int) (hm : Nt p0 p1 = some RES) : Spec Tryz.prog 153 [.p (.agg (Aq p0)),pI p1] [] (pI RES) [] [] := by
 unfold Nt at hm
 refine SO Tryz.func153 rfl rfl [(0,.p (.agg (Aq p0))),(1,pI p1)] [] ?_
 intro cx hnt
 refine Sq (RK hnt (nn 3 []) [(2,rr 1016),(3,rr 1024)] [(1016,bx (pm (Aq p0))),(1024,bx [pI p1])] tv ?_)
 obtain ⟨r1,hr1,hm⟩ := bo hm
 refine Sq (RK hnt (nn 3 (.call 202 [1024] true (pI r1) [.box [pI p1]] [] :: .no :: [])) [(4,pI r1)] [] (an (Pg p0.nodes p1 r1 hr1) (an tv tv)) ?_)
 obtain rfl := sj hm
 exact DW.ret (Ak [] [] (pI r1))
abbrev o18 (ks : List Nat) (b : Bool) (RES : Int) : Orc := .call 153 ks b (pI RES) [] []

theorem AeU (p0 : Aa) (p1 : Aj) (RES : Bool) (hm : Rc p0 p1 = some RES) : Spec Tryz.prog 93 [.p (.agg (Ab p0)),.p (.agg (Am p1))] [] (pB RES) [] [] := by
 unfold Rc at hm
 refine SO Tryz.func93 rfl rfl [(0,.p (.agg (Ab p0))),(1,.p (.agg (Am p1)))] [] ?_
 intro cx hnt
 refine Sq (RK hnt (nn 3 []) [(2,rr 1016),(3,rr 1024)] [(1016,bx (pm (Ab p0))),(1024,bx (pm (Am p1)))] tv ?_)
 obtain ⟨r1,hr1,hm⟩ := bo hm
 refine Sq (RD hnt (nn 3 (o14 [] true r1 :: nn 6 [])) [] [(5,rr 1040),(6,pB r1.2)] [] [(1040,bx (pm (Am r1.1)))] (an (Vv p0 p1.process r1 hr1) tv) ?_)
 refine Sq ?_
 refine Jn (ι := Bool) (fun (y1 : Bool) => Ao [(4,pB y1)] []) (fun y1 => Hn y1 = some RES) ?_ ?_
 ·intro y1 hm
  unfold Hn at hm
  obtain rfl := sj hm
  exact DW.ret (Ak [] [] (pB y1))
 ·rcases bt (decide (p1.user ≥ 0)) with h2 | h2
  ·replace hm := Bg h2 hm
   rcases bt (decide (p1.user ≤ 1048576)) with h3 | h3
   ·replace hm := Bg h3 hm
    rcases bt r1.2 with h4 | h4
    ·replace hm := Bg h4 hm
     rcases bt (r1.1.process == r1.1.id) with h5 | h5
     ·replace hm := Bg h5 hm
      rcases bt (r1.1.user == p1.user) with h6 | h6
      ·replace hm := Bg h6 hm
       obtain ⟨r7,hr7,hm⟩ := bo hm
       refine RK hnt (nn 7 (pT :: nn 2 (pT :: nn 6 (pT :: nn 6 (pT :: nn 5 (o18 [] true r7 :: .no :: pT :: .no :: [])))))) [(4,pB (decide (r7 ≥ 0)))] [] (an4 h2 (an2 h3 (an6 h4 (an6 h5 (an5 h6 (an (Vs p0.tree p1.group r7 hr7) (an2 h6 tv))))))) ?_
       exact jD (decide (r7 ≥ 0)) hm .refl
      ·replace hm := Bh h6 hm
       refine RK hnt (nn 7 (pT :: nn 2 (pT :: nn 6 (pT :: nn 6 (pT :: .no :: sk 6 (pF :: .no :: [])))))) [(4,pB false)] [] (an4 h2 (an2 h3 (an6 h4 (an6 h5 (an h6 (an6 h6 tv)))))) ?_
       exact jD false hm .refl
     ·replace hm := Bh h5 hm
      refine RK hnt (nn 7 (pT :: nn 2 (pT :: nn 6 (pT :: .no :: sk 5 (pF :: .no :: sk 6 (pF :: .no :: [])))))) [(4,pB false)] [] (an4 h2 (an2 h3 (an6 h4 (an6 h5 (an ff (an6 ff tv)))))) ?_
      exact jD false hm .refl
    ·replace hm := Bh h4 hm
     refine RK hnt (nn 7 (pT :: nn 2 (pT :: .no :: sk 5 (pF :: .no :: sk 5 (pF :: .no :: sk 6 (pF :: .no :: [])))))) [(4,pB false)] [] (an4 h2 (an2 h3 (an6 h4 (an ff (an6 ff (an6 ff tv)))))) ?_
     exact jD false hm .refl
   ·replace hm := Bh h3 hm
    refine RK hnt (nn 7 (pT :: .no :: .skip :: pF :: .no :: sk 5 (pF :: .no :: sk 5 (pF :: .no :: sk 6 (pF :: .no :: []))))) [(4,pB false)] [] (an4 h2 (an2 h3 (an ff (an6 ff (an6 ff (an6 ff tv)))))) ?_
    exact jD false hm .refl
  ·replace hm := Bh h2 hm
   refine RK hnt (nn 4 (sk 3 (pF :: .no :: .skip :: pF :: .no :: sk 5 (pF :: .no :: sk 5 (pF :: .no :: sk 6 (pF :: .no :: [])))))) [(4,pB false)] [] (an4 h2 (an3 ff (an6 ff (an6 ff (an6 ff tv))))) ?_
   exact jD false hm .refl
abbrev o13 (ks : List Nat) (b : Bool) (RES : Bool) : Orc := .call 93 ks b (pB RES) [] []

abbrev c7e1 (p0 : Aa) (k1 : Nat) := (p0.tasks.getD k1 (default : Aj))
theorem Hr (p0 : Aa) (RES : Bool) (hm : Ga p0 = some RES) : Spec Tryz.prog 18 [.p (.agg (Ab p0))] [] (pB RES) [] [] := by
 unfold Ga at hm
 refine SO Tryz.func18 rfl rfl [(0,.p (.agg (Ab p0)))] [] ?_
 intro cx hnt
 refine Sq (RK hnt (nn 2 []) [(1,rr 1008)] [(1008,bx (pm (Ab p0)))] tv ?_)
 refine Sq (Sq ?_)
 refine Jn (ι := Bool) (fun (y1 : Bool) => Ao [(1,rr 1008),(20,pB y1)] [(1008,bx (pm (Ab p0)))]) (fun y1 => (Kw p0) y1 = some RES) ?_ ?_
 ·intro y1 hm
  unfold Kw at hm
  refine Ag hm ?_ ?_
  ·intro h4 hm
   refine Sq (RK hnt (.no :: []) [(2,pB false)] [] tv ?_)
   obtain rfl := sj hm
   exact DW.ret (Ak [] [] (pB false))
  ·intro h4 hm
   refine Sk ?_
   refine Sq (RD hnt (.no :: []) [20] [(3,pI 0)] [] [] tv ?_)
   refine Sq (Sq (RD hnt (nn 4 []) [] [(22,.p (Bt p0.tasks)),(23,pI ((p0.tasks.length : Nat) : Int)),(24,pI 0)] [] [] tv ?_))
   refine Bk ?_
   obtain ⟨hc1,hm⟩ := go1 hm
   refine DW.rangeO (fun (k1 : Nat) (s1 : Int) => Ao [(1,rr 1008),(3,pI s1),(22,.p (Bt p0.tasks)),(23,pI ((p0.tasks.length : Nat) : Int)),(24,pI ((k1 : Nat) : Int))] [(1008,bx (pm (Ab p0)))]) Ba hm Conv.eqK ?_
   intro k1 s1 n1 hk1 hs1 he1
   refine Sq (RD hnt (.no :: []) [] [(25,pB (decide (((k1 : Nat) : Int) < ((p0.tasks.length : Nat) : Int))))] [] [] tv ?_)
   refine Sq (Cm (decide (((k1 : Nat) : Int) < ((p0.tasks.length : Nat) : Int))) ?_ ?_)
   ·intro h15
    have hlt1 : k1 < p0.tasks.length := by have := of_decide_eq_true h15; omega
    have hm := hs1 hlt1
    unfold Ug at hm
    refine Sk ?_
    refine Sq (Bk ?_)
    refine Sq (RD hnt (nn 4 []) [25] [(5,rr 1040)] [] [(1040,bx (pm (Am (c7e1 p0 k1))))] (an (nn0 k1) (an (ltc hlt1) tv)) ?_)
    refine Sq (Sq ?_)
    refine Jn (ι := Bool) (fun (y4 : Bool) => Ao [(1,rr 1008),(5,rr 1040),(22,.p (Bt p0.tasks)),(23,pI ((p0.tasks.length : Nat) : Int)),(24,pI ((k1 : Nat) : Int)),(37,pB y4)] [(1008,bx (pm (Ab p0))),(1040,bx (pm (Am (c7e1 p0 k1))))]) (fun y4 => (Mz (c7e1 p0 k1) n1) y4 = some RES) ?_ ?_
    ·intro y4 hm
     unfold Mz at hm
     refine Ag hm ?_ ?_
     ·intro h18 hm
      refine Sq (RK hnt (.no :: []) [(2,pB false)] [] tv ?_)
      obtain rfl := sj hm
      exact DW.ret (Ak [] [] (pB false))
     ·intro h18 hm
      refine Sk ?_
      refine RD hnt (nn 3 []) [5,37] [(3,pI (c7e1 p0 k1).id)] [1040] [] tv ?_
      refine DW.done ?_
      show DW _ _ _ _ _
      refine RD hnt (nn 2 []) [] [(24,pI (w64 (((k1 : Nat) : Int) + 1)))] [] [] tv ?_
      exact jD (c7e1 p0 k1).id ⟨hlt1,hm⟩ (Conv.tp [(24,pI (w64 (((k1 : Nat) : Int) + 1)))] [] (by kernel_rfl) (.cons rfl (.of_eq (congrArg pI (Br hlt1 hc1))) .nil) .nil)
    ·rcases bt (decide ((c7e1 p0 k1).id ≤ s1)) with h16 | h16
     ·replace hm := Bg h16 hm
      refine RD hnt (nn 5 (sk 4 (pT :: []))) [3] [(37,pB true)] [] [] (an5 h16 tv) ?_
      exact jD true hm Conv.eqK
     ·replace hm := Bh h16 hm
      obtain ⟨r17,hr17,hm⟩ := bo hm
      refine RD hnt (nn 7 (o13 [] true r17 :: .no :: pF :: [])) [3] [(37,pB (!r17))] [] [] (an3 h16 (an (AeU p0 (c7e1 p0 k1) r17 hr17) (an2 h16 tv))) ?_
      exact jD (!r17) hm Conv.eqK
   ·intro h15
    have hge1 : ¬ k1 < p0.tasks.length := by have := of_decide_eq_false h15; omega
    have hm := he1 hge1
    unfold AaK at hm
    refine DW.exit ?_
    refine Ar ?_
    refine Au ?_
    refine Ap ?_
    show DW _ _ _ _ _
    refine Sq (RK hnt (nn 5 []) [(2,pB (decide (p0.next > s1)))] [] tv ?_)
    obtain rfl := sj hm
    exact DW.ret (Ak [] [] (pB (decide (p0.next > s1))))
 ·rcases bt (decide (((p0.tasks.length : Nat) : Int) > 128)) with h1 | h1
  ·replace hm := Bg h1 hm
   refine RD hnt (nn 5 (sk 3 (pT :: .no :: sk 4 (pT :: [])))) [] [(20,pB true)] [] [] (an4 h1 (an5 tt tv)) ?_
   exact jD true hm Conv.eqK
  ·replace hm := Bh h1 hm
   rcases bt (decide (p0.next > 2147483648)) with h2 | h2
   ·replace hm := Bg h2 hm
    refine RD hnt (nn 8 (pF :: .no :: sk 4 (pT :: []))) [] [(20,pB true)] [] [] (an4 h1 (an5 h2 tv)) ?_
    exact jD true hm Conv.eqK
   ·replace hm := Bh h2 hm
    obtain ⟨r3,hr3,hm⟩ := bo hm
    refine RD hnt (nn 8 (pF :: nn 3 (o8 [] true r3 :: .no :: pF :: []))) [] [(20,pB (!r3))] [] [] (an4 h1 (an3 h2 (an (AfL p0.tree r3 hr3) (an2 h2 tv)))) ?_
    exact jD (!r3) hm Conv.eqK
abbrev o7 (ks : List Nat) (b : Bool) (RES : Bool) : Orc := .call 18 ks b (pB RES) [] []

theorem Za (p0 : List Af) (RES : List Af) (hm : Kc p0 = some RES) : Spec Tryz.prog 206 [.p (.sl .nn 6 p0.length (elems An (default : Af) p0))] [] (ow 0 RES.length) [] [Ac RES] := by
 unfold Kc at hm
 refine SO Tryz.func206 rfl rfl [(0,.p (.sl .nn 6 p0.length (elems An (default : Af) p0)))] [] ?_
 intro cx hnt
 refine Sq (RD hnt (.no :: []) [] [] [] [] tv ?_)
 refine Sq (Sq (RD hnt (nn 2 []) [] [(4,pB false)] [] [] tv ?_))
 refine condF ff ?_
 refine Sk ?_
 obtain ⟨g1,hm⟩ := go1 hm
 refine Sq (RN hnt (nn 4 []) [(2,ow 1040 p0.length)] [(1040,ob0 (Ac p0))] [(2,ow 1040 (0 + p0.length))] [(1040,.row 6 (0 + p0.length) (Cp 0 (cut 6 []) (Fz p0)))] (an (by omega : (0 + p0.length) * 56 ≤ 140737488355328) tv) (by kernel_rfl) (.cons rfl (MLe.ownLen (enc := An) (d := Aw) (f := (Cp 0 (cut 6 []) (Fz p0))) (RowIs.cat RowIs.nil RowIs.elems)) .nil) (.cons rfl (BLe.typed (RowIs.cat RowIs.nil RowIs.elems)) .nil) ?_)
 obtain rfl := sj hm
 exact DW.ret (Ak [Ac p0] [1040] (ow 0 p0.length))

theorem Xh (p0 : List Af) (RES : List Af) (hm : Nw p0 = some RES) : Spec Tryz.prog 206 [.p (.sl .nil 6 0 (elems An (default : Af) p0))] [] (ow 0 RES.length) [] [Ac RES] := by
 unfold Nw at hm
 refine SO Tryz.func206 rfl rfl [(0,.p (.sl .nil 6 0 (elems An (default : Af) p0)))] [] ?_
 intro cx hnt
 refine Sq (RD hnt (.no :: []) [] [] [] [] tv ?_)
 refine Sq (Sq (RD hnt (nn 2 []) [] [(4,pB true)] [] [] tv ?_))
 refine condT tt ?_
 refine Sq (RK hnt (.no :: []) [(2,.p (.sl .nil 0 0 (fun _ => [])))] [] tv ?_)
 refine DW.cv [] [(2,ow 100000 0)] [] [(100000,ob0 (Ac []))] (Conv.ads [(.s 2,100000,6,elems An Aw [])]) ?_
 obtain rfl := sj hm
 exact DW.ret (Ak [Ac []] [100000] (ow 0 0))

theorem AaI (p0 : List Af) (RES : List Af) (hm : Kc p0 = some RES) : Spec Tryz.prog 206 [.p (Cz p0)] [] (ow 0 RES.length) [] [Ac RES] :=
  Spec.unk (fun h => Xh p0 RES (by have e : p0 = [] := List.eq_nil_of_length_eq_zero h; subst e; simpa [Kc,Nw] using hm)) (Za p0 RES hm)
abbrev o23 (ks : List Nat) (b : Bool) (RES : List Af) : Orc := .call 206 ks b (ow 0 RES.length) [] [Ac RES]

theorem Zb (p0 : List Aj) (RES : List Aj) (hm : Kb p0 = some RES) : Spec Tryz.prog 207 [.p (.sl .nn 4 p0.length (elems Am (default : Aj) p0))] [] (ow 0 RES.length) [] [Ai RES] := by
 unfold Kb at hm
 refine SO Tryz.func207 rfl rfl [(0,.p (.sl .nn 4 p0.length (elems Am (default : Aj) p0)))] [] ?_
 intro cx hnt
 refine Sq (RD hnt (.no :: []) [] [] [] [] tv ?_)
 refine Sq (Sq (RD hnt (nn 2 []) [] [(4,pB false)] [] [] tv ?_))
 refine condF ff ?_
 refine Sk ?_
 obtain ⟨g1,hm⟩ := go1 hm
 refine Sq (RN hnt (nn 4 []) [(2,ow 1040 p0.length)] [(1040,ob0 (Ai p0))] [(2,ow 1040 (0 + p0.length))] [(1040,.row 4 (0 + p0.length) (Cp 0 (cut 4 []) (Dy p0)))] (an (by omega : (0 + p0.length) * 32 ≤ 140737488355328) tv) (by kernel_rfl) (.cons rfl (MLe.ownLen (enc := Am) (d := Ba) (f := (Cp 0 (cut 4 []) (Dy p0))) (RowIs.cat RowIs.nil RowIs.elems)) .nil) (.cons rfl (BLe.typed (RowIs.cat RowIs.nil RowIs.elems)) .nil) ?_)
 obtain rfl := sj hm
 exact DW.ret (Ak [Ai p0] [1040] (ow 0 p0.length))

theorem Yb (p0 : List Aj) (RES : List Aj) (hm : Oe p0 = some RES) : Spec Tryz.prog 207 [.p (.sl .nil 4 0 (elems Am (default : Aj) p0))] [] (ow 0 RES.length) [] [Ai RES] := by
 unfold Oe at hm
 refine SO Tryz.func207 rfl rfl [(0,.p (.sl .nil 4 0 (elems Am (default : Aj) p0)))] [] ?_
 intro cx hnt
 refine Sq (RD hnt (.no :: []) [] [] [] [] tv ?_)
 refine Sq (Sq (RD hnt (nn 2 []) [] [(4,pB true)] [] [] tv ?_))
 refine condT tt ?_
 refine Sq (RK hnt (.no :: []) [(2,.p (.sl .nil 0 0 (fun _ => [])))] [] tv ?_)
 refine DW.cv [] [(2,ow 100000 0)] [] [(100000,ob0 (Ai []))] (Conv.ads [(.s 2,100000,4,elems Am Ba [])]) ?_
 obtain rfl := sj hm
 exact DW.ret (Ak [Ai []] [100000] (ow 0 0))

theorem AaO (p0 : List Aj) (RES : List Aj) (hm : Kb p0 = some RES) : Spec Tryz.prog 207 [.p (Bt p0)] [] (ow 0 RES.length) [] [Ai RES] :=
  Spec.unk (fun h => Yb p0 RES (by have e : p0 = [] := List.eq_nil_of_length_eq_zero h; subst e; simpa [Kb,Oe] using hm)) (Zb p0 RES hm)
abbrev o24 (ks : List Nat) (b : Bool) (RES : List Aj) : Orc := .call 207 ks b (ow 0 RES.length) [] [Ai RES]

theorem AbA (p0 : Aa) (RES : Aa) (hm : Zk p0 = some RES) : Spec Tryz.prog 156 [.p (.agg (Ab p0))] [] (.agg [ow 0 RES.tree.nodes.length,pI RES.tree.next,ow 1 RES.tasks.length,pI RES.next]) [] [Ac RES.tree.nodes,Ai RES.tasks] := by
 unfold Zk at hm
 refine SO Tryz.func156 rfl rfl [(0,.p (.agg (Ab p0)))] [] ?_
 intro cx hnt
 refine Sq (RK hnt (nn 2 []) [(1,rr 1008),(2,rr 1016)] [(1008,bx (pm (Ab p0))),(1016,bx [.p (.sl .nil 0 0 (fun _ => [])),pI 0,.p (.sl .nil 0 0 (fun _ => [])),pI 0])] tv ?_)
 obtain ⟨r1,hr1,hm⟩ := bo hm
 obtain ⟨r2,hr2,hm⟩ := bo hm
 refine Sq (RK hnt (nn 3 (o23 [] true r1 :: nn 6 (o24 [] true r2 :: nn 4 []))) [(2,rr 1016)] [(1016,bx [ow 1048 r1.length,pI p0.tree.next,ow 1104 r2.length,pI p0.next]),(1048,ob0 (Ac r1)),(1104,ob0 (Ai r2))] (an (AaI p0.tree.nodes r1 hr1) (an (AaO p0.tasks r2 hr2) tv)) ?_)
 obtain rfl := sj hm
 exact DW.ret (Ak [Ac r1,Ai r2] [1048,1104] (.agg [ow 0 r1.length,pI p0.tree.next,ow 1 r2.length,pI p0.next]))
abbrev o22 (ks : List Nat) (b : Bool) (RES : Aa) : Orc := .call 156 ks b (.agg [ow 0 RES.tree.nodes.length,pI RES.tree.next,ow 1 RES.tasks.length,pI RES.next]) [] [Ac RES.tree.nodes,Ai RES.tasks]

abbrev c21e1 : Nat × Obj := (1032,bx [.p (.sl .nil 0 0 (fun _ => [])),pI 0,.p (.sl .nil 0 0 (fun _ => [])),pI 0])
abbrev c21e2 (r3 : Aa) : Nat × Obj := (1056,bx [ow 1152 r3.tree.nodes.length,pI r3.tree.next,ow 1153 r3.tasks.length,pI r3.next])
theorem AaN (p0 : Aa) (p1 : Aj) (RES : Aa × Int × Int) (hm : Wu p0 p1 = some RES) : Spec Tryz.prog 154 [.p (.agg (Ab p0)),.p (.agg (Am p1))] [] (.tup [.agg [ow 0 RES.1.tree.nodes.length,pI RES.1.tree.next,ow 1 RES.1.tasks.length,pI RES.1.next],pI RES.2.1,pI RES.2.2]) [] [Ac RES.1.tree.nodes,Ai RES.1.tasks] := by
 unfold Wu at hm
 refine SO Tryz.func154 rfl rfl [(0,.p (.agg (Ab p0))),(1,.p (.agg (Am p1)))] [] ?_
 intro cx hnt
 refine Sq (RK hnt (nn 5 []) [(2,rr 1016),(3,rr 1024),(4,rr 1032)] [(1016,bx (pm (Ab p0))),(1024,bx (pm (Am p1))),(c21e1)] tv ?_)
 refine Sq (Sq (DW.regJ (sl2 := [(2,rr 1016),(3,rr 1024),(4,rr 1032),(16,pB ((decide (((p0.tasks.length : Nat) : Int) ≥ 128)) || (decide (p0.next > 2147483647))))]) (ob2 := [(1016,bx (pm (Ab p0))),(1024,bx (pm (Am p1))),(c21e1)]) ?_ ?_))
 ·rcases bt (decide (((p0.tasks.length : Nat) : Int) ≥ 128)) with h1 | h1
  ·exact RT hnt (nn 5 (sk 3 (pT :: []))) [(16,pB true)] (an4 h1 tv) (by kernel_rfl) (.cons rfl (.of_eq (by rw [h1]; try rfl)) .nil)
  ·exact RT hnt (nn 8 (pF :: [])) [(16,pB (decide (p0.next > 2147483647)))] (an4 h1 tv) (by kernel_rfl) (.cons rfl (.of_eq (by rw [h1]; try rfl)) .nil)
 ·refine Ag hm ?_ ?_
  ·intro h2 hm
   refine Sq (RD hnt (nn 4 []) [2,3,16] [(5,pI 0),(6,pI 7)] [1016,1024] [] tv ?_)
   refine DW.cv [] [] [] [(1032,bx [ow 100000 0,pI 0,ow 100001 0,pI 0]),(100000,ob0 (Ac [])),(100001,ob0 (Ai []))] (Conv.ads [(.o 1032 0,100000,6,elems An Aw []),(.o 1032 2,100001,4,elems Am Ba [])]) ?_
   obtain rfl := sj hm
   exact DW.ret (Ak [Ac [],Ai []] [100000,100001] (.tup [.agg [ow 0 0,pI 0,ow 1 0,pI 0],pI 0,pI 7]))
  ·intro h2 hm
   refine Sk ?_
   obtain ⟨r3,hr3,hm⟩ := bo hm
   refine Sq (RD hnt (.no :: o22 [] true r3 :: nn 2 []) [16] [(7,rr 1056)] [] [(c21e2 r3),(1152,ob0 (Ac r3.tree.nodes)),(1153,ob0 (Ai r3.tasks))] (an (AbA p0 r3 hr3) tv) ?_)
   refine Sq (RD hnt (nn 4 []) [2] [] [1016] [(1024,bx [pI p0.next,pI p1.process,pI p1.group,pI p1.user])] tv ?_)
   refine Sq (Sq (RD hnt (nn 3 []) [] [(25,pB (p1.process == 0))] [] [] tv ?_))
   refine Jn (ι := Aj) (fun (y1 : Aj) => Ao [(3,rr 1024),(4,rr 1032),(7,rr 1056)] [(1024,bx (pm (Am y1))),(c21e1),(c21e2 r3),(1152,ob0 (Ac r3.tree.nodes)),(1153,ob0 (Ai r3.tasks))]) (fun y1 => (Sf r3) y1 = some RES) ?_ ?_
   ·intro y1 hm
    unfold Sf at hm
    obtain ⟨g5,hm⟩ := go1 hm
    refine Sq (RN hnt (nn 7 []) [(3,rr 1024),(4,rr 1032),(7,rr 1056)] [(1024,bx (pm (Am y1))),(c21e1),(1056,bx [ow 1152 r3.tree.nodes.length,pI r3.tree.next,ow 1153 (r3.tasks ++ [y1]).length,pI r3.next]),(1152,ob0 (Ac r3.tree.nodes)),(1153,ob0 (Ai (r3.tasks ++ [y1])))] [] [(1056,.box [ow 1152 r3.tree.nodes.length,pI r3.tree.next,ow 1153 (r3.tasks.length + 1),pI r3.next]),(1153,.row 4 (r3.tasks.length + 1) (Cp r3.tasks.length (Dy r3.tasks) (cut 4 [vi y1.id,vi y1.process,vi y1.group,vi y1.user])))] (an (by omega : (r3.tasks.length + 1) * 32 ≤ 140737488355328) tv) (by kernel_rfl) .nil (.cons rfl (.box (.cons .rfl (.cons .rfl (.cons (MLe.ownLen (enc := Am) (d := Ba) (f := (Cp r3.tasks.length (Dy r3.tasks) (cut 4 [vi y1.id,vi y1.process,vi y1.group,vi y1.user]))) (RowIs.cat RowIs.elems (RowIs.lit (enc := Am) (d := Ba) (n := 1) (f := (cut 4 [vi y1.id,vi y1.process,vi y1.group,vi y1.user])) [y1] rfl (fun | 0,_ => rfl | n + 1,h => absurd h (by omega))))) (.cons .rfl .nil))))) (.cons rfl (BLe.typed (RowIs.cat RowIs.elems (RowIs.lit (enc := Am) (d := Ba) (n := 1) (f := (cut 4 [vi y1.id,vi y1.process,vi y1.group,vi y1.user])) [y1] rfl (fun | 0,_ => rfl | n + 1,h => absurd h (by omega))))) .nil)) ?_)
    refine Sq (RD hnt (nn 5 []) [] [] [] [(1056,bx [ow 1152 r3.tree.nodes.length,pI r3.tree.next,ow 1153 (r3.tasks ++ [y1]).length,pI (w64 (r3.next + 1))])] tv ?_)
    refine Sq (RD hnt (nn 6 []) [3,7] [(5,pI y1.id),(6,pI 0)] [1024,1056] [(1032,bx [ow 1152 r3.tree.nodes.length,pI r3.tree.next,ow 1153 (r3.tasks ++ [y1]).length,pI (w64 (r3.next + 1))])] tv ?_)
    obtain rfl := sj hm
    exact DW.ret (Ak [Ac r3.tree.nodes,Ai (r3.tasks ++ [y1])] [1152,1153] (.tup [.agg [ow 0 r3.tree.nodes.length,pI r3.tree.next,ow 1 (r3.tasks ++ [y1]).length,pI (w64 (r3.next + 1))],pI y1.id,pI 0]))
   ·refine Ag hm ?_ ?_
    ·intro h4 hm
     refine RD hnt (nn 4 []) [25] [] [] [(1024,bx [pI p0.next,pI p0.next,pI p1.group,pI p1.user])] tv ?_
     exact jD ({ id := p0.next,process := p0.next,group := p1.group,user := p1.user } : Aj) hm Conv.eqK
    ·intro h4 hm
     refine Sk ?_
     exact jD ({ id := p0.next,process := p1.process,group := p1.group,user := p1.user } : Aj) hm Conv.t0
abbrev o21 (ks : List Nat) (b : Bool) (RES : Aa × Int × Int) : Orc := .call 154 ks b (.tup [.agg [ow 0 RES.1.tree.nodes.length,pI RES.1.tree.next,ow 1 RES.1.tasks.length,pI RES.1.next],pI RES.2.1,pI RES.2.2]) [] [Ac RES.1.tree.nodes,Ai RES.1.tasks]

abbrev c6e1 : Nat × Obj := (1048,bx [.p (.sl .nil 0 0 (fun _ => [])),pI 0,.p (.sl .nil 0 0 (fun _ => [])),pI 0])
theorem Aeg (p0 : Aa) (p1 : Int) (p2 : Int) (RES : Aa × Int × Int) (hm : Ys p0 p1 p2 = some RES) : Spec Tryz.prog 79 [.p (.agg (Ab p0)),pI p1,pI p2] [] (.tup [.agg [ow 0 RES.1.tree.nodes.length,pI RES.1.tree.next,ow 1 RES.1.tasks.length,pI RES.1.next],pI RES.2.1,pI RES.2.2]) [] [Ac RES.1.tree.nodes,Ai RES.1.tasks] := by
 unfold Ys at hm
 refine SO Tryz.func79 rfl rfl [(0,.p (.agg (Ab p0))),(1,pI p1),(2,pI p2)] [] ?_
 intro cx hnt
 refine Sq (RD hnt (nn 4 []) [0] [(3,rr 1024),(6,rr 1048)] [] [(1024,bx (pm (Ab p0))),(c6e1)] tv ?_)
 obtain ⟨r1,hr1,hm⟩ := bo hm
 refine Sq (Sq ?_)
 refine Jn (ι := Bool) (fun (y1 : Bool) => Ao [(1,pI p1),(2,pI p2),(3,rr 1024),(6,rr 1048),(19,pB y1)] [(1024,bx (pm (Ab p0))),(c6e1)]) (fun y1 => (Nc p0 p1 p2) y1 = some RES) ?_ ?_
 ·intro y1 hm
  unfold Nc at hm
  refine Ag hm ?_ ?_
  ·intro h4 hm
   refine Sq (RD hnt (nn 4 []) [1,2,3,19] [(7,pI 0),(8,pI 1)] [1024] [] tv ?_)
   refine DW.cv [] [] [] [(1048,bx [ow 100000 0,pI 0,ow 100001 0,pI 0]),(100000,ob0 (Ac [])),(100001,ob0 (Ai []))] (Conv.ads [(.o 1048 0,100000,6,elems An Aw []),(.o 1048 2,100001,4,elems Am Ba [])]) ?_
   obtain rfl := sj hm
   exact DW.ret (Ak [Ac [],Ai []] [100000,100001] (.tup [.agg [ow 0 0,pI 0,ow 1 0,pI 0],pI 0,pI 1]))
  ·intro h4 hm
   refine Sk ?_
   obtain ⟨r5,hr5,hm⟩ := bo hm
   refine Sq (Sq (RD hnt (nn 3 (o18 [] true r5 :: .no :: [])) [19] [(25,pB (decide (r5 < 0)))] [] [] (an (Vs p0.tree p1 r5 hr5) tv) ?_))
   refine Ag hm ?_ ?_
   ·intro h6 hm
    refine Sq (RD hnt (nn 4 []) [1,2,3,25] [(7,pI 0),(8,pI 4)] [1024] [] tv ?_)
    refine DW.cv [] [] [] [(1048,bx [ow 100000 0,pI 0,ow 100001 0,pI 0]),(100000,ob0 (Ac [])),(100001,ob0 (Ai []))] (Conv.ads [(.o 1048 0,100000,6,elems An Aw []),(.o 1048 2,100001,4,elems Am Ba [])]) ?_
    obtain rfl := sj hm
    exact DW.ret (Ak [Ac [],Ai []] [100000,100001] (.tup [.agg [ow 0 0,pI 0,ow 1 0,pI 0],pI 0,pI 4]))
   ·intro h6 hm
    refine Sk ?_
    obtain ⟨r7,hr7,hm⟩ := bo hm
    refine Sq (RK hnt (nn 4 (o21 [] true r7 :: nn 6 [])) [(6,rr 1048),(7,pI r7.2.1),(8,pI r7.2.2)] [(1048,bx [ow 1248 r7.1.tree.nodes.length,pI r7.1.tree.next,ow 1249 r7.1.tasks.length,pI r7.1.next]),(1248,ob0 (Ac r7.1.tree.nodes)),(1249,ob0 (Ai r7.1.tasks))] (an (AaN p0 ({ id := 0,process := 0,group := p1,user := p2 } : Aj) r7 hr7) tv) ?_)
    obtain rfl := sj hm
    exact DW.ret (Ak [Ac r7.1.tree.nodes,Ai r7.1.tasks] [1248,1249] (.tup [.agg [ow 0 r7.1.tree.nodes.length,pI r7.1.tree.next,ow 1 r7.1.tasks.length,pI r7.1.next],pI r7.2.1,pI r7.2.2]))
 ·rcases bt (!r1) with h2 | h2
  ·replace hm := Bg h2 hm
   refine RD hnt (.no :: o7 [] true r1 :: nn 2 (sk 2 (pT :: .no :: sk 2 (pT :: [])))) [] [(19,pB true)] [] [] (an (Hr p0 r1 hr1) (an3 h2 (an3 tt tv))) ?_
   exact jD true hm Conv.eqK
  ·replace hm := Bh h2 hm
   rcases bt (decide (p2 < 0)) with h3 | h3
   ·replace hm := Bg h3 hm
    refine RD hnt (.no :: o7 [] true r1 :: nn 4 (pF :: .no :: sk 2 (pT :: []))) [] [(19,pB true)] [] [] (an (Hr p0 r1 hr1) (an3 h2 (an3 h3 tv))) ?_
    exact jD true hm Conv.eqK
   ·replace hm := Bh h3 hm
    refine RD hnt (.no :: o7 [] true r1 :: nn 4 (pF :: nn 3 (pF :: []))) [] [(19,pB (decide (p2 > 1048576)))] [] [] (an (Hr p0 r1 hr1) (an3 h2 (an3 h3 tv))) ?_
    exact jD (decide (p2 > 1048576)) hm Conv.eqK
abbrev o6 (ks : List Nat) (b : Bool) (RES : Aa × Int × Int) : Orc := .call 79 ks b (.tup [.agg [ow 0 RES.1.tree.nodes.length,pI RES.1.tree.next,ow 1 RES.1.tasks.length,pI RES.1.next],pI RES.2.1,pI RES.2.2]) [] [Ac RES.1.tree.nodes,Ai RES.1.tasks]

theorem AdJ (p0 : Aa) (p1 : Int) (RES : Aa × Int × Int) (hm : Yf p0 p1 = some RES) : Spec Tryz.prog 80 [.p (.agg (Ab p0)),pI p1] [] (.tup [.agg [ow 0 RES.1.tree.nodes.length,pI RES.1.tree.next,ow 1 RES.1.tasks.length,pI RES.1.next],pI RES.2.1,pI RES.2.2]) [] [Ac RES.1.tree.nodes,Ai RES.1.tasks] := by
 unfold Yf at hm
 refine SO Tryz.func80 rfl rfl [(0,.p (.agg (Ab p0))),(1,pI p1)] [] ?_
 intro cx hnt
 refine Sq (RK hnt (nn 4 []) [(1,pI p1),(2,rr 1016),(4,rr 1032)] [(1016,bx (pm (Ab p0))),(1032,bx [.p (.sl .nil 0 0 (fun _ => [])),pI 0,.p (.sl .nil 0 0 (fun _ => [])),pI 0])] tv ?_)
 obtain ⟨r1,hr1,hm⟩ := bo hm
 refine Sq (Sq (RD hnt (.no :: o7 [] true r1 :: .no :: []) [] [(11,pB (!r1))] [] [] (an (Hr p0 r1 hr1) tv) ?_))
 refine Ag hm ?_ ?_
 ·intro h2 hm
  refine Sq (RD hnt (nn 4 []) [1,2,11] [(5,pI 0),(6,pI 1)] [1016] [] tv ?_)
  refine DW.cv [] [] [] [(1032,bx [ow 100000 0,pI 0,ow 100001 0,pI 0]),(100000,ob0 (Ac [])),(100001,ob0 (Ai []))] (Conv.ads [(.o 1032 0,100000,6,elems An Aw []),(.o 1032 2,100001,4,elems Am Ba [])]) ?_
  obtain rfl := sj hm
  exact DW.ret (Ak [Ac [],Ai []] [100000,100001] (.tup [.agg [ow 0 0,pI 0,ow 1 0,pI 0],pI 0,pI 1]))
 ·intro h2 hm
  refine Sk ?_
  obtain ⟨r3,hr3,hm⟩ := bo hm
  refine Sq (RD hnt (nn 2 (o14 [] true r3 :: nn 6 [])) [1,11] [(7,rr 1056),(8,pB r3.2)] [] [(1056,bx (pm (Am r3.1)))] (an (Vv p0 p1 r3 hr3) tv) ?_)
  refine Sq (Sq (RD hnt (nn 2 []) [8] [(20,pB (!r3.2))] [] [] tv ?_))
  refine Ag hm ?_ ?_
  ·intro h4 hm
   refine Sq (RD hnt (nn 4 []) [2,7,20] [(5,pI 0),(6,pI 4)] [1016,1056] [] tv ?_)
   refine DW.cv [] [] [] [(1032,bx [ow 100000 0,pI 0,ow 100001 0,pI 0]),(100000,ob0 (Ac [])),(100001,ob0 (Ai []))] (Conv.ads [(.o 1032 0,100000,6,elems An Aw []),(.o 1032 2,100001,4,elems Am Ba [])]) ?_
   obtain rfl := sj hm
   exact DW.ret (Ak [Ac [],Ai []] [100000,100001] (.tup [.agg [ow 0 0,pI 0,ow 1 0,pI 0],pI 0,pI 4]))
  ·intro h4 hm
   refine Sk ?_
   obtain ⟨r5,hr5,hm⟩ := bo hm
   refine Sq (RK hnt (nn 2 (o21 [] true r5 :: nn 6 [])) [(4,rr 1032),(5,pI r5.2.1),(6,pI r5.2.2)] [(1032,bx [ow 1192 r5.1.tree.nodes.length,pI r5.1.tree.next,ow 1193 r5.1.tasks.length,pI r5.1.next]),(1192,ob0 (Ac r5.1.tree.nodes)),(1193,ob0 (Ai r5.1.tasks))] (an (AaN p0 r3.1 r5 hr5) tv) ?_)
   obtain rfl := sj hm
   exact DW.ret (Ak [Ac r5.1.tree.nodes,Ai r5.1.tasks] [1192,1193] (.tup [.agg [ow 0 r5.1.tree.nodes.length,pI r5.1.tree.next,ow 1 r5.1.tasks.length,pI r5.1.next],pI r5.2.1,pI r5.2.2]))
abbrev o25 (ks : List Nat) (b : Bool) (RES : Aa × Int × Int) : Orc := .call 80 ks b (.tup [.agg [ow 0 RES.1.tree.nodes.length,pI RES.1.tree.next,ow 1 RES.1.tasks.length,pI RES.1.next],pI RES.2.1,pI RES.2.2]) [] [Ac RES.1.tree.nodes,Ai RES.1.tasks]

theorem Vy (p0 : Aj) (p1 : Int) (RES : Bool) (hm : Rr p0 p1 = some RES) : Spec Tryz.prog 158 [.p (.agg (Am p0)),rr 0] [.box [pI p1]] (pB RES) [.box [pI p1]] [] := by
 unfold Rr at hm
 refine SO Tryz.func158 rfl rfl [(0,.p (.agg (Am p0))),(1,rr 0)] [(0,bx [pI p1])] ?_
 intro cx hnt
 refine Sq (RD hnt (nn 2 []) [0] [(2,rr 1016)] [] [(1016,bx (pm (Am p0)))] tv ?_)
 refine Sq (DW.regJ (sl2 := [(3,pB ((p0.id == p1) || (p0.process == p1)))]) (ob2 := [(0,bx [pI p1])]) ?_ ?_)
 ·rcases bt (p0.id == p1) with h1 | h1
  ·exact RT hnt (nn 5 (sk 4 (pT :: .no :: []))) [(3,pB true)] (an5 h1 tv) (by kernel_rfl) (.cons rfl (.of_eq (by rw [h1]; try rfl)) .nil)
  ·exact RT hnt (nn 9 (pF :: .no :: [])) [(3,pB (p0.process == p1))] (an5 h1 tv) (by kernel_rfl) (.cons rfl (.of_eq (by rw [h1]; try rfl)) .nil)
 ·refine DW.ret ?_
  obtain rfl := sj hm
  exact Ak [.box [pI p1]] [] (pB ((p0.id == p1) || (p0.process == p1)))

theorem Og (p0 : List Aj) (p1c0 : Int) (RES : Int) (hm : Gz p0 p1c0 = some RES) : Spec Tryz.prog 204 [.p (Bt p0),.fn 158 [rr 0]] [.box [pI p1c0]] (pI RES) [.box [pI p1c0]] [] := by
 unfold Gz at hm
 refine SO Tryz.func204 rfl rfl [(0,.p (Bt p0)),(1,.fn 158 [rr 0])] [(0,bx [pI p1c0])] ?_
 intro cx hnt
 refine Sq (RD hnt (.no :: []) [] [] [] [] tv ?_)
 refine Sq (Sq (RD hnt (nn 3 []) [] [(7,pI ((p0.length : Nat) : Int)),(8,pI 0)] [] [] tv ?_))
 refine Bk ?_
 obtain ⟨hc1,hm⟩ := go1 hm
 refine DW.rangeO (fun (k1 : Nat) (s1 : Unit) => Ao [(0,.p (Bt p0)),(1,.fn 158 [rr 0]),(7,pI ((p0.length : Nat) : Int)),(8,pI ((k1 : Nat) : Int))] [(0,bx [pI p1c0])]) Ba hm Conv.eqK ?_
 intro k1 s1 n1 hk1 hs1 he1
 refine Sq (RD hnt (.no :: []) [] [(9,pB (decide (((k1 : Nat) : Int) < ((p0.length : Nat) : Int))))] [] [] tv ?_)
 refine Sq (Cm (decide (((k1 : Nat) : Int) < ((p0.length : Nat) : Int))) ?_ ?_)
 ·intro h9
  have hlt1 : k1 < p0.length := by have := of_decide_eq_true h9; omega
  have hm := hs1 hlt1
  unfold Jk at hm
  refine Sk ?_
  refine Sq (Bk ?_)
  refine Sq (RD hnt (nn 2 []) [9] [(5,pI ((k1 : Nat) : Int))] [] [] tv ?_)
  obtain ⟨r10,hr10,hm⟩ := bo hm
  refine Sq (RD hnt (nn 5 (.call 158 [0] true (pB r10) [.box [pI p1c0]] [] :: [])) [] [(16,pB r10)] [] [] (an (nn0 k1) (an (ltc hlt1) (an (Vy (p0.getD k1 (default : Aj)) p1c0 r10 hr10) (an tv tv)))) ?_)
  refine Ag hm ?_ ?_
  ·intro h11 hm
   refine Sq (RK hnt (nn 2 []) [(4,pI ((k1 : Nat) : Int))] [(0,bx [pI p1c0])] tv ?_)
   obtain rfl := sj hm
   exact DW.ret (Ak [.box [pI p1c0]] [] (pI ((k1 : Nat) : Int)))
  ·intro h11 hm
   refine Sk ?_
   refine DW.done ?_
   show DW _ _ _ _ _
   refine RD hnt (nn 2 []) [5,16] [(8,pI (w64 (((k1 : Nat) : Int) + 1)))] [] [] tv ?_
   exact jD () ⟨hlt1,hm⟩ (Conv.tp [(8,pI (w64 (((k1 : Nat) : Int) + 1)))] [] (by kernel_rfl) (.cons rfl (.of_eq (congrArg pI (Br hlt1 hc1))) .nil) .nil)
 ·intro h9
  have hge1 : ¬ k1 < p0.length := by have := of_decide_eq_false h9; omega
  have hm := he1 hge1
  unfold Jl at hm
  refine DW.exit ?_
  refine Ar ?_
  refine Au ?_
  refine Ap ?_
  show DW _ _ _ _ _
  refine Sq (RK hnt (.no :: []) [(4,pI (-1))] [(0,bx [pI p1c0])] tv ?_)
  obtain rfl := sj hm
  exact DW.ret (Ak [.box [pI p1c0]] [] (pI (-1)))

abbrev Ti (s1 : (List Aj) × Int × Int) := (s1.1.getD (Int.toNat s1.2.2) Ba)
abbrev c27e2 := ({ id := 0,process := 0,group := 0,user := 0 } : Aj)
abbrev c27e3 (s1 : (List Aj) × Int × Int) := (Lw s1.1 (Int.toNat s1.2.1) (Cc s1.1.length (Int.toNat s1.2.1)) (c27e2))
abbrev c27e4 (s1 : (List Aj) × Int × Int) := (Bj (Dy s1.1) (Int.toNat s1.2.1) [vi (Ti s1).id,vi (Ti s1).process,vi (Ti s1).group,vi (Ti s1).user])
theorem Od (p0 : List Aj) (p1c0 : Int) (RES : Nat × (List Aj) × Int) (hm : Gu p0 p1c0 = some RES) : Spec Tryz.prog 157 [ow 0 p0.length,.fn 158 [rr 1]] [Ai p0,.box [pI p1c0]] (ow 0 RES.1) [Ai RES.2.1,.box [pI RES.2.2]] [] := by
 unfold Gu at hm
 refine SO Tryz.func157 rfl rfl [(0,ow 0 p0.length),(1,.fn 158 [rr 1])] [(0,ob0 (Ai p0)),(1,bx [pI p1c0])] ?_
 intro cx hnt
 refine Sq (RD hnt (.no :: []) [] [] [] [] tv ?_)
 obtain ⟨r1,hr1,hm⟩ := bo hm
 refine Sq (RD hnt (nn 2 (.call 204 [1] true (pI r1) [.box [pI p1c0]] [] :: .no :: [])) [] [(5,pI r1)] [] [] (an (Og p0 p1c0 r1 hr1) (an tv tv)) ?_)
 refine Sq (Sq (RD hnt (nn 2 []) [] [(12,pB (r1 == (-1)))] [] [] tv ?_))
 refine Ag hm ?_ ?_
 ·intro h2 hm
  refine Sq (RD hnt (nn 2 []) [0,1,5,12] [(4,ow 0 p0.length)] [] [] tv ?_)
  obtain rfl := sj hm
  exact DW.ret (Ak [Ai p0,.box [pI p1c0]] [] (ow 0 p0.length))
 ·intro h2 hm
  refine Sk ?_
  refine Sq (Sq (RD hnt (nn 3 []) [12] [(6,pI (w64 (r1 + 1)))] [] [] tv ?_))
  refine Bk ?_
  refine DW.whileO (fun (s1 : (List Aj) × Int × Int) => Ao [(0,ow 0 s1.1.length),(1,.fn 158 [rr 1]),(5,pI s1.2.1),(6,pI s1.2.2)] [(0,ob0 (Ai s1.1)),(1,bx [pI p1c0])]) hm Conv.eqK ?_
  intro s1 n1 hm
  unfold Iv at hm
  refine Sq (Sq (RD hnt (nn 4 []) [] [(19,pB (decide (s1.2.2 < ((s1.1.length : Nat) : Int))))] [] [] tv ?_))
  refine Ag hm ?_ ?_
  ·intro h13 hm
   refine Sk ?_
   refine Sq ?_
   refine Jn (ι := (List Aj) × Int) (fun (y2 : (List Aj) × Int) => Ao [(0,ow 0 y2.1.length),(1,.fn 158 [rr 1]),(5,pI y2.2),(6,pI s1.2.2)] [(0,ob0 (Ai y2.1)),(1,bx [pI p1c0])]) (fun y2 => (Eb s1 n1) y2 = some RES) ?_ ?_
   ·intro y2 hm
    unfold Eb at hm
    refine RD hnt (nn 3 []) [] [(6,pI (w64 (s1.2.2 + 1)))] [] [] tv ?_
    exact jD (y2.1,y2.2,(w64 (s1.2.2 + 1))) hm Conv.eqK
   ·refine Bk ?_
    obtain ⟨g14,g15,hm⟩ := go2 hm
    refine Sq (RD hnt (nn 6 []) [19] [(7,rr 1056)] [] [(1056,bx (pm (Am (Ti s1))))] (an g14.1 (an g14.2 (an g15 tv))) ?_)
    obtain ⟨r16,hr16,hm⟩ := bo hm
    refine Sq (RD hnt (nn 2 (.call 158 [1] true (pB r16) [.box [pI p1c0]] [] :: .no :: [])) [] [(29,pB (!r16))] [] [] (an (Vy (Ti s1) p1c0 r16 hr16) (an tv tv)) ?_)
    refine Ag hm ?_ ?_
    ·intro h17 hm
     obtain ⟨g18,g19,hm⟩ := go2 hm
     refine Sq (RN hnt (nn 5 []) [(0,ow 0 (s1.1.set (Int.toNat s1.2.1) (Ti s1)).length),(1,.fn 158 [rr 1]),(5,pI s1.2.1),(6,pI s1.2.2)] [(0,ob0 (Ai (s1.1.set (Int.toNat s1.2.1) (Ti s1)))),(1,bx [pI p1c0])] [(0,ow 0 s1.1.length)] [(0,.row 4 s1.1.length (c27e4 s1))] (an g18.1 (an g18.2 (an g19 tv))) (by kernel_rfl) (.cons rfl (MLe.ownLen (enc := Am) (d := Ba) (f := (c27e4 s1)) (RowIs.upd RowIs.elems (Ti s1) rfl)) .nil) (.cons rfl (BLe.typed (RowIs.upd RowIs.elems (Ti s1) rfl)) .nil) ?_)
     refine RD hnt (nn 3 []) [] [(5,pI (w64 (s1.2.1 + 1)))] [] [] tv ?_
     exact bD ((s1.1.set (Int.toNat s1.2.1) (Ti s1)),(w64 (s1.2.1 + 1))) hm Conv.eqK
    ·intro h17 hm
     refine Sk ?_
     exact bD (s1.1,s1.2.1) hm Conv.t0
  ·intro h13 hm
   refine DW.exit ?_
   refine Ar ?_
   refine Au ?_
   refine Ap ?_
   show DW _ _ _ _ _
   obtain ⟨g20,g21,hm⟩ := go2 hm
   refine Sq (RN hnt (nn 4 []) [(0,ow 0 (c27e3 s1).length),(5,pI s1.2.1)] [(0,ob0 (Ai (c27e3 s1))),(1,bx [pI p1c0])] [(0,ow 0 s1.1.length)] [(0,.row 4 s1.1.length (Ko (Dy s1.1) (Int.toNat s1.2.1) (Cc s1.1.length (Int.toNat s1.2.1)) (fun _ => [vi 0,vi 0,vi 0,vi 0])))] (an (by omega : (0 : Int) ≤ s1.2.1) (an (by omega : s1.2.1 ≤ ((s1.1.length : Nat) : Int)) (an (by omega : ((s1.1.length : Nat) : Int) ≤ ((s1.1.length : Nat) : Int)) (an g21 tv)))) (by kernel_rfl) (.cons rfl (MLe.ownLen (enc := Am) (d := Ba) (f := (Ko (Dy s1.1) (Int.toNat s1.2.1) (Cc s1.1.length (Int.toNat s1.2.1)) (fun _ => [vi 0,vi 0,vi 0,vi 0]))) (RowIs.fill RowIs.elems (c27e2) rfl (by first | exact g21 | omega))) .nil) (.cons rfl (BLe.typed (RowIs.fill RowIs.elems (c27e2) rfl (by first | exact g21 | omega))) .nil) ?_)
   obtain ⟨g22,hm⟩ := go1 hm
   refine Sq (RD hnt (nn 4 []) [0,5] [(4,ow 0 (Int.toNat s1.2.1))] [] [] (an (by omega : (0 : Int) ≤ 0) (an (by omega : (0 : Int) ≤ s1.2.1) (an (by omega : s1.2.1 ≤ (((Lw s1.1 (Int.toNat s1.2.1) (Cc s1.1.length (Int.toNat s1.2.1)) ({ id := 0,process := 0,group := 0,user := 0 } : Aj)).length : Nat) : Int)) tv))) ?_)
   obtain rfl := sj hm
   exact DW.ret (Ak [Ai (c27e3 s1),.box [pI p1c0]] [] (ow 0 (Int.toNat s1.2.1)))
abbrev o27 (ks : List Nat) (b : Bool) (RES : Nat × (List Aj) × Int) : Orc := .call 157 ks b (ow 0 RES.1) [Ai RES.2.1,.box [pI RES.2.2]] []

abbrev c26e1 : Nat × Body := (1032,.box [ow 100000 0,pI 0,.p (.sl .nil 0 0 (fun _ => [])),pI 0])
abbrev c26e2 : Nat × Obj := (1032,bx [ow 100000 0,pI 0,.p (.sl .nil 0 0 (fun _ => [])),pI 0])
theorem AeE (p0 : Aa) (p1 : Int) (RES : Aa × Int) (hm : Aax p0 p1 = some RES) : Spec Tryz.prog 81 [.p (.agg (Ab p0)),pI p1] [] (.tup [.agg [ow 0 RES.1.tree.nodes.length,pI RES.1.tree.next,.p (Bt RES.1.tasks),pI RES.1.next],pI RES.2]) [] [Ac RES.1.tree.nodes] := by
 unfold Aax at hm
 refine SO Tryz.func81 rfl rfl [(0,.p (.agg (Ab p0))),(1,pI p1)] [] ?_
 intro cx hnt
 refine Sq (RK hnt (nn 4 []) [(2,rr 1016),(3,rr 1024),(4,rr 1032)] [(1016,bx (pm (Ab p0))),(1024,bx [pI p1]),(1032,bx [.p (.sl .nil 0 0 (fun _ => [])),pI 0,.p (.sl .nil 0 0 (fun _ => [])),pI 0])] tv ?_)
 obtain ⟨r1,hr1,hm⟩ := bo hm
 refine Sq (Sq (RD hnt (.no :: o7 [] true r1 :: .no :: []) [] [(9,pB (!r1))] [] [] (an (Hr p0 r1 hr1) tv) ?_))
 refine Ag hm ?_ ?_
 ·intro h2 hm
  refine Sq (RD hnt (nn 3 []) [2,3,9] [(5,pI 1)] [1016,1024] [] tv ?_)
  refine DW.conv (τ := Ao [(4,rr 1032),(5,pI 1)] [(1032,bx [ow 100000 0,pI 0,.p (Bt []),pI 0]),(100000,ob0 (Ac []))]) (Conv.trans (τ := Ao [(4,rr 1032),(5,pI 1)] [(c26e2),(100000,ob0 (Ac []))]) (Conv.ads [(.o 1032 0,100000,6,elems An Aw [])]) (Conv.tp [] [(c26e1)] (by kernel_rfl) .nil (.cons rfl (.box (.cons .rfl (.cons .rfl (.cons MLe.nilL (.cons .rfl .nil))))) .nil))) ?_
  obtain rfl := sj hm
  exact DW.ret (Ak [Ac []] [100000] (.tup [.agg [ow 0 0,pI 0,.p (Bt []),pI 0],pI 1]))
 ·intro h2 hm
  refine Sk ?_
  obtain ⟨r3,hr3,hm⟩ := bo hm
  refine Sq (Sq (RD hnt (nn 2 (o15 [] true r3 :: .no :: [])) [9] [(14,pB (decide (r3 < 0)))] [] [] (an (Adv p0 p1 r3 hr3) tv) ?_))
  refine Ag hm ?_ ?_
  ·intro h4 hm
   refine Sq (RD hnt (nn 3 []) [2,3,14] [(5,pI 4)] [1016,1024] [] tv ?_)
   refine DW.conv (τ := Ao [(4,rr 1032),(5,pI 4)] [(1032,bx [ow 100000 0,pI 0,.p (Bt []),pI 0]),(100000,ob0 (Ac []))]) (Conv.trans (τ := Ao [(4,rr 1032),(5,pI 4)] [(c26e2),(100000,ob0 (Ac []))]) (Conv.ads [(.o 1032 0,100000,6,elems An Aw [])]) (Conv.tp [] [(c26e1)] (by kernel_rfl) .nil (.cons rfl (.box (.cons .rfl (.cons .rfl (.cons MLe.nilL (.cons .rfl .nil))))) .nil))) ?_
   obtain rfl := sj hm
   exact DW.ret (Ak [Ac []] [100000] (.tup [.agg [ow 0 0,pI 0,.p (Bt []),pI 0],pI 4]))
  ·intro h4 hm
   refine Sk ?_
   obtain ⟨r5,hr5,hm⟩ := bo hm
   refine Sq (RD hnt (.no :: o22 [] true r5 :: nn 2 []) [2,14] [(6,rr 1048)] [1016] [(1048,bx [ow 1136 r5.tree.nodes.length,pI r5.tree.next,ow 1137 r5.tasks.length,pI r5.next]),(1136,ob0 (Ac r5.tree.nodes)),(1137,ob0 (Ai r5.tasks))] (an (AbA p0 r5 hr5) tv) ?_)
   obtain ⟨r6,hr6,hm⟩ := bo hm
   obtain ⟨g7,g8,hm⟩ := go2 hm
   refine Sq (RD hnt (nn 3 (o27 [1137,1024] true r6 :: nn 2 [])) [3] [] [1024] [(1048,bx [ow 1136 r5.tree.nodes.length,pI r5.tree.next,ow 1137 r6.1,pI r5.next]),(1137,ob0 (Ai r6.2.1))] (an (Od r5.tasks p1 r6 hr6) (an (⟨rfl,g7⟩ : Body.same (Ai r5.tasks) (Ai r6.2.1)) (an tv tv))) ?_)
   refine Sq (RD hnt (nn 3 []) [6] [(5,pI 0)] [1048] [(1032,bx [ow 1136 r5.tree.nodes.length,pI r5.tree.next,ow 1137 r6.1,pI r5.next])] tv ?_)
   refine DW.conv (τ := Ao [(4,rr 1032),(5,pI 0)] [(1032,bx [ow 1136 r5.tree.nodes.length,pI r5.tree.next,.p (Bt (r6.2.1.take r6.1)),pI r5.next]),(1136,ob0 (Ac r5.tree.nodes))]) (Conv.trans (τ := Ao [(4,rr 1032),(5,pI 0)] [(1032,bx [ow 1136 r5.tree.nodes.length,pI r5.tree.next,.p (.sl .unk 4 r6.1 (Dy r6.2.1)),pI r5.next]),(1136,ob0 (Ac r5.tree.nodes))]) (Conv.frz [1137]) (Conv.tp [] [(1032,.box [ow 1136 r5.tree.nodes.length,pI r5.tree.next,.p (.sl .unk 4 r6.1 (Dy r6.2.1)),pI r5.next])] (by kernel_rfl) .nil (.cons rfl (.box (.cons .rfl (.cons .rfl (.cons (MLe.typed (RowIs.take RowIs.elems (by first | omega | (simp only [Fd,Mb] at *; omega)))) (.cons .rfl .nil))))) .nil))) ?_
   obtain rfl := sj hm
   exact DW.ret (Ak [Ac r5.tree.nodes] [1136] (.tup [.agg [ow 0 r5.tree.nodes.length,pI r5.tree.next,.p (Bt (r6.2.1.take r6.1)),pI r5.next],pI 0]))
abbrev o26 (ks : List Nat) (b : Bool) (RES : Aa × Int) : Orc := .call 81 ks b (.tup [.agg [ow 0 RES.1.tree.nodes.length,pI RES.1.tree.next,.p (Bt RES.1.tasks),pI RES.1.next],pI RES.2]) [] [Ac RES.1.tree.nodes]

theorem AbC (RES : Bool) (hm : Sa = some RES) : Spec Tryz.prog 14 [] [] (pB RES) [] [] := by
 unfold Sa at hm
 refine SO Tryz.func14 rfl rfl [] [] ?_
 intro cx hnt
 refine Sq (RK hnt (.no :: []) [] [] tv ?_)
 obtain ⟨r1,hr1,hm⟩ := bo hm
 obtain ⟨r2,hr2,hm⟩ := bo hm
 refine Sq (RK hnt (o4 [] true r1 :: o6 [] false r2 :: nn 8 []) [(1,rr 1008),(2,pI r2.2.1),(3,pI r2.2.2)] [(1008,bx [ow 1080 r2.1.tree.nodes.length,pI r2.1.tree.next,ow 1081 r2.1.tasks.length,pI r2.1.next]),(1080,ob0 (Ac r2.1.tree.nodes)),(1081,ob0 (Ai r2.1.tasks))] (an (To r1 hr1) (an (Aeg r1 1 0 r2 hr2) tv)) ?_)
 refine Sq (DW.cv [] [] [1080] [(1008,bx [.p (Cz r2.1.tree.nodes),pI r2.1.tree.next,ow 1081 r2.1.tasks.length,pI r2.1.next])] (Conv.frz [1080]) ?_)
 refine DW.cv [] [] [1081] [(1008,bx (pm (Ab r2.1)))] (Conv.frz [1081]) ?_
 obtain ⟨r5,hr5,hm⟩ := bo hm
 refine RD hnt (nn 2 (o25 [] true r5 :: nn 7 [])) [] [(4,pI r5.2.1),(5,pI r5.2.2)] [] [(1008,bx [ow 1136 r5.1.tree.nodes.length,pI r5.1.tree.next,ow 1137 r5.1.tasks.length,pI r5.1.next]),(1136,ob0 (Ac r5.1.tree.nodes)),(1137,ob0 (Ai r5.1.tasks))] (an (AdJ r2.1 r2.2.1 r5 hr5) tv) ?_
 refine Sq (DW.cv [] [] [1136] [(1008,bx [.p (Cz r5.1.tree.nodes),pI r5.1.tree.next,ow 1137 r5.1.tasks.length,pI r5.1.next])] (Conv.frz [1136]) ?_)
 refine DW.cv [] [] [1137] [(1008,bx (pm (Ab r5.1)))] (Conv.frz [1137]) ?_
 obtain ⟨r8,hr8,hm⟩ := bo hm
 refine RD hnt (nn 2 (o26 [] true r8 :: nn 6 [])) [1] [(6,rr 1048),(7,pI r8.2)] [1008] [(1048,bx [ow 1192 r8.1.tree.nodes.length,pI r8.1.tree.next,.p (Bt r8.1.tasks),pI r8.1.next]),(1192,ob0 (Ac r8.1.tree.nodes))] (an (AeE r5.1 r2.2.1 r8 hr8) tv) ?_
 refine Sq (DW.regJ (sl2 := [(0,pB (((((((r2.2.2 == 0) && (r2.2.1 == 1)) && (r5.2.2 == 0)) && (r5.2.1 == 2)) && (r8.2 == 0)) && (((r8.1.tasks.length : Nat) : Int) == 0)) && (r8.1.next == 3)))]) (ob2 := []) ?_ ?_)
 ·rcases bt (r2.2.2 == 0) with h9 | h9
  ·rcases bt (r2.2.1 == 1) with h10 | h10
   ·rcases bt (r5.2.2 == 0) with h11 | h11
    ·rcases bt (r5.2.1 == 2) with h12 | h12
     ·rcases bt (r8.2 == 0) with h13 | h13
      ·rcases bt (((r8.1.tasks.length : Nat) : Int) == 0) with h14 | h14
       ·exact RT hnt (nn 5 (pT :: nn 3 (pT :: nn 3 (pT :: nn 3 (pT :: nn 5 (pT :: nn 4 (pT :: .no :: []))))))) [(0,pB (r8.1.next == 3))] (an3 h9 (an3 h10 (an3 h11 (an3 h12 (an5 h13 (an4 h14 tv)))))) (by kernel_rfl) (.cons rfl (.of_eq (by rw [h9,h10,h11,h12,h13,h14]; try rfl)) .nil)
       ·exact RT hnt (nn 5 (pT :: nn 3 (pT :: nn 3 (pT :: nn 3 (pT :: nn 5 (pT :: .no :: sk 3 (pF :: .no :: []))))))) [(0,pB false)] (an3 h9 (an3 h10 (an3 h11 (an3 h12 (an5 h13 (an4 h14 tv)))))) (by kernel_rfl) (.cons rfl (.of_eq (by rw [h9,h10,h11,h12,h13,h14]; try rfl)) .nil)
      ·exact RT hnt (nn 5 (pT :: nn 3 (pT :: nn 3 (pT :: nn 3 (pT :: .no :: sk 4 (pF :: .no :: sk 3 (pF :: .no :: []))))))) [(0,pB false)] (an3 h9 (an3 h10 (an3 h11 (an3 h12 (an5 h13 (an4 ff tv)))))) (by kernel_rfl) (.cons rfl (.of_eq (by rw [h9,h10,h11,h12,h13]; try rfl)) .nil)
     ·exact RT hnt (nn 5 (pT :: nn 3 (pT :: nn 3 (pT :: .no :: sk 2 (pF :: .no :: sk 4 (pF :: .no :: sk 3 (pF :: .no :: []))))))) [(0,pB false)] (an3 h9 (an3 h10 (an3 h11 (an3 h12 (an3 ff (an6 ff tv)))))) (by kernel_rfl) (.cons rfl (.of_eq (by rw [h9,h10,h11,h12]; try rfl)) .nil)
    ·exact RT hnt (nn 5 (pT :: nn 3 (pT :: .no :: sk 2 (pF :: .no :: sk 2 (pF :: .no :: sk 4 (pF :: .no :: sk 3 (pF :: .no :: []))))))) [(0,pB false)] (an3 h9 (an3 h10 (an3 h11 (an6 ff (an6 ff tv))))) (by kernel_rfl) (.cons rfl (.of_eq (by rw [h9,h10,h11]; try rfl)) .nil)
   ·exact RT hnt (nn 5 (pT :: .no :: sk 2 (pF :: .no :: sk 2 (pF :: .no :: sk 2 (pF :: .no :: sk 4 (pF :: .no :: sk 3 (pF :: .no :: []))))))) [(0,pB false)] (an3 h9 (an3 h10 (an3 ff (an6 ff (an6 ff tv))))) (by kernel_rfl) (.cons rfl (.of_eq (by rw [h9,h10]; try rfl)) .nil)
  ·exact RT hnt (nn 3 (sk 2 (pF :: .no :: sk 2 (pF :: .no :: sk 2 (pF :: .no :: sk 2 (pF :: .no :: sk 4 (pF :: .no :: sk 3 (pF :: .no :: [])))))))) [(0,pB false)] (an3 h9 (an6 ff (an6 ff (an6 ff tv)))) (by kernel_rfl) (.cons rfl (.of_eq (by rw [h9]; try rfl)) .nil)
 ·refine DW.ret ?_
  obtain rfl := sj hm
  exact Ak [] [] (pB (((((((r2.2.2 == 0) && (r2.2.1 == 1)) && (r5.2.2 == 0)) && (r5.2.1 == 2)) && (r8.2 == 0)) && (((r8.1.tasks.length : Nat) : Int) == 0)) && (r8.1.next == 3)))
abbrev o3 (ks : List Nat) (b : Bool) (RES : Bool) : Orc := .call 14 ks b (pB RES) [] []

theorem Agc (p0 : List Int) (RES : Al) (hm : AcH p0 = some RES) : Spec Tryz.prog 15 [.p (slI p0)] [] (rr 0) [] [.box (pm (Ah RES))] := by
 unfold AcH at hm
 refine SO Tryz.func15 rfl rfl [(0,.p (slI p0))] [] ?_
 intro cx hnt
 refine Sq (RK hnt (.no :: []) [(0,.p (slI p0))] [] tv ?_)
 refine Sq (RK hnt (nn 4 []) [(2,rr 1040)] [(1040,bx [.p (slI p0),pI 0])] tv ?_)
 obtain rfl := sj hm
 exact DW.ret (Ak [.box [.p (slI p0),pI 0]] [1040] (rr 0))
abbrev o30 (ks : List Nat) (b : Bool) (RES : Al) : Orc := .call 15 ks b (rr 0) [] [.box (pm (Ah RES))]

abbrev AcS := ({ id := 1,parent := 0,name := ByteArray.empty,control := 0,kind := 0,owner := 0 } : Af)
theorem AcD (RES : Ae) (hm : Xe = some RES) : Spec Tryz.prog 107 [] [] (.agg [ow 0 RES.nodes.length,pI RES.next]) [] [Ac RES.nodes] := by
 unfold Xe at hm
 refine SO Tryz.func107 rfl rfl [] [] ?_
 intro cx hnt
 refine Sq (RK hnt (.no :: []) [(0,rr 1000)] [(1000,bx [.p (.sl .nil 0 0 (fun _ => [])),pI 0])] tv ?_)
 refine Sq (RN hnt (nn 4 []) [(0,rr 1000)] [(1000,bx [ow 1016 [(AcS)].length,pI 2]),(1016,ob0 (Ac [(AcS)]))] [] [(1000,.box [ow 1016 1,pI 2]),(1016,.row 6 1 (cut 6 [vi 1,vi 0,vs ByteArray.empty,vi 0,vi 0,vi 0]))] tv (by kernel_rfl) .nil (.cons rfl (.box (.cons (MLe.ownLen (enc := An) (d := Aw) (f := (cut 6 [vi 1,vi 0,vs ByteArray.empty,vi 0,vi 0,vi 0])) (RowIs.lit (enc := An) (d := Aw) (n := 1) (f := (cut 6 [vi 1,vi 0,vs ByteArray.empty,vi 0,vi 0,vi 0])) [(AcS)] rfl (fun | 0,_ => rfl | n + 1,h => absurd h (by omega)))) (.cons .rfl .nil))) (.cons rfl (BLe.typed (RowIs.lit (enc := An) (d := Aw) (n := 1) (f := (cut 6 [vi 1,vi 0,vs ByteArray.empty,vi 0,vi 0,vi 0])) [(AcS)] rfl (fun | 0,_ => rfl | n + 1,h => absurd h (by omega)))) .nil)) ?_)
 obtain rfl := sj hm
 exact DW.ret (Ak [Ac [(AcS)]] [1016] (.agg [ow 0 [(AcS)].length,pI 2]))
abbrev o33 (ks : List Nat) (b : Bool) (RES : Ae) : Orc := .call 107 ks b (.agg [ow 0 RES.nodes.length,pI RES.next]) [] [Ac RES.nodes]

theorem Xv (RES : Aa) (hm : Yl = some RES) : Spec Tryz.prog 37 [] [] (.agg [ow 0 RES.tree.nodes.length,pI RES.tree.next,ow 1 RES.tasks.length,pI RES.next]) [] [Ac RES.tree.nodes,Ai RES.tasks] := by
 unfold Yl at hm
 refine SO Tryz.func37 rfl rfl [] [] ?_
 intro cx hnt
 refine Sq (RK hnt (.no :: []) [(0,rr 1000)] [(1000,bx [.p (.sl .nil 0 0 (fun _ => [])),pI 0,.p (.sl .nil 0 0 (fun _ => [])),pI 0])] tv ?_)
 obtain ⟨r1,hr1,hm⟩ := bo hm
 refine Sq (RK hnt (o33 [] true r1 :: nn 2 []) [(0,rr 1000)] [(1000,bx [ow 1008 r1.nodes.length,pI r1.next,.p (.sl .nil 0 0 (fun _ => [])),pI 1]),(1008,ob0 (Ac r1.nodes))] (an (AcD r1 hr1) tv) ?_)
 refine DW.cv [] [] [] [(1000,bx [ow 1008 r1.nodes.length,pI r1.next,ow 100000 0,pI 1]),(100000,ob0 (Ai []))] (Conv.ads [(.o 1000 2,100000,4,elems Am Ba [])]) ?_
 obtain rfl := sj hm
 exact DW.ret (Ak [Ac r1.nodes,Ai []] [1008,100000] (.agg [ow 0 r1.nodes.length,pI r1.next,ow 1 0,pI 1]))
abbrev o32 (ks : List Nat) (b : Bool) (RES : Aa) : Orc := .call 37 ks b (.agg [ow 0 RES.tree.nodes.length,pI RES.tree.next,ow 1 RES.tasks.length,pI RES.next]) [] [Ac RES.tree.nodes,Ai RES.tasks]

abbrev c35e1 (p0 : Al) := (p0.l.getD (Int.toNat (w64 ((w64 (p0.atF + 1)) - 1))) 0)
theorem As (p0 : Al) (p1 : Int) (RES : Int × Al) (hm : Ax p0 p1 = some RES) : Spec Tryz.prog 50 [rr 0,pI p1] [.box (pm (Ah p0))] (pI RES.1) [.box (pm (Ah RES.2))] [] := by
 unfold Ax at hm
 refine SO Tryz.func50 rfl rfl [(0,rr 0),(1,pI p1)] [(0,bx (pm (Ah p0)))] ?_
 intro cx hnt
 refine Sq (RD hnt (.no :: []) [] [] [] [] tv ?_)
 refine Sq (Sq (DW.regJ (sl2 := [(0,rr 0),(1,pI p1),(19,pB ((decide (p0.atF ≥ ((p0.l.length : Nat) : Int))) || (decide (p1 < 1))))]) (ob2 := [(0,bx (pm (Ah p0)))]) ?_ ?_))
 ·rcases bt (decide (p0.atF ≥ ((p0.l.length : Nat) : Int))) with h1 | h1
  ·exact RT hnt (nn 11 (sk 2 (pT :: []))) [(19,pB true)] (an3 h1 tv) (by kernel_rfl) (.cons rfl (.of_eq (by rw [h1]; try rfl)) .nil)
  ·exact RT hnt (nn 13 (pF :: [])) [(19,pB (decide (p1 < 1)))] (an3 h1 tv) (by kernel_rfl) (.cons rfl (.of_eq (by rw [h1]; try rfl)) .nil)
 ·refine Ag hm ?_ ?_
  ·intro h2 hm
   refine Sq (RD hnt (.no :: []) [0,1,19] [(4,pI 0)] [] [] tv ?_)
   obtain rfl := sj hm
   exact DW.ret (Ak [.box (pm (Ah p0))] [] (pI 0))
  ·intro h2 hm
   refine Sk ?_
   refine Sq (RD hnt (nn 8 []) [19] [] [] [(0,bx [.p (slI p0.l),pI (w64 (p0.atF + 1))])] tv ?_)
   obtain ⟨g3,g4,hm⟩ := go2 hm
   refine Sq (RD hnt (nn 14 []) [0] [(5,pI (Int.tmod (c35e1 p0) p1))] [] [] (an g3.1 (an g3.2 (an g4 tv))) ?_)
   refine Sq (Sq (RD hnt (nn 2 []) [] [(41,pB (decide ((Int.tmod (c35e1 p0) p1) < 0)))] [] [] tv ?_))
   refine Jn (ι := Int) (fun (y1 : Int) => Ao [(5,pI y1)] [(0,bx [.p (slI p0.l),pI (w64 (p0.atF + 1))])]) (fun y1 => (Lq p0) y1 = some RES) ?_ ?_
   ·intro y1 hm
    unfold Lq at hm
    refine Sq (RD hnt (nn 2 []) [5] [(4,pI y1)] [] [] tv ?_)
    obtain rfl := sj hm
    exact DW.ret (Ak [.box [.p (slI p0.l),pI (w64 (p0.atF + 1))]] [] (pI y1))
   ·refine Ag hm ?_ ?_
    ·intro h5 hm
     refine RD hnt (nn 4 []) [1,41] [(5,pI (w64 ((Int.tmod (c35e1 p0) p1) + p1)))] [] [] tv ?_
     exact jD (w64 ((Int.tmod (c35e1 p0) p1) + p1)) hm Conv.eqK
    ·intro h5 hm
     refine Sk ?_
     exact jD (Int.tmod (c35e1 p0) p1) hm Conv.t0
abbrev o35 (ks : List Nat) (b : Bool) (RES : Int × Al) : Orc := .call 50 ks b (pI RES.1) [.box (pm (Ah RES.2))] []

theorem Acd (p0 : Al) (RES : ByteArray × Al) (hm : Nn p0 = some RES) : Spec Tryz.prog 110 [rr 0] [.box (pm (Ah p0))] (pS RES.1) [.box (pm (Ah RES.2))] [] := by
 unfold Nn at hm
 refine SO Tryz.func110 rfl rfl [(0,rr 0)] [(0,bx (pm (Ah p0)))] ?_
 intro cx hnt
 refine Sq (RD hnt (.no :: []) [] [] [] [] tv ?_)
 obtain ⟨r3,hr3,hm⟩ := bo hm
 obtain ⟨g4,g5,hm⟩ := go2 hm
 refine Sq (RK hnt (.asR (ow 1024 [(bs [97]),(bs [98]),(bs [99]),(bs [119,101,98]),(bs [100,98,45,49]),(bs [88,95,57])].length) [(bs [97]),(bs [98]),(bs [99]),(bs [119,101,98]),(bs [100,98,45,49]),(bs [88,95,57])].length (elems Vn ByteArray.empty [(bs [97]),(bs [98]),(bs [99]),(bs [119,101,98]),(bs [100,98,45,49]),(bs [88,95,57])]) :: .no :: o35 [0] true r3 :: nn 3 []) [(2,pS ([(bs [97]),(bs [98]),(bs [99]),(bs [119,101,98]),(bs [100,98,45,49]),(bs [88,95,57])].getD (Int.toNat r3.1) ByteArray.empty))] [(0,bx (pm (Ah r3.2)))] (an (congrArg (MV.own 1024 0 0) (RowIs.asP (enc := Vn) (d := ByteArray.empty) (L := [(bs [97]),(bs [98]),(bs [99]),(bs [119,101,98]),(bs [100,98,45,49]),(bs [88,95,57])]) (RowIs.lit (enc := Vn) (d := ByteArray.empty) (n := 6) (f := (cut 1 [vs (bs [97]),vs (bs [98]),vs (bs [99]),vs (bs [119,101,98]),vs (bs [100,98,45,49]),vs (bs [88,95,57])])) [(bs [97]),(bs [98]),(bs [99]),(bs [119,101,98]),(bs [100,98,45,49]),(bs [88,95,57])] rfl (fun | 0,_ => rfl | 1,_ => rfl | 2,_ => rfl | 3,_ => rfl | 4,_ => rfl | 5,_ => rfl | n + 6,h => absurd h (by omega)))).1) (an (RowIs.asP (enc := Vn) (d := ByteArray.empty) (L := [(bs [97]),(bs [98]),(bs [99]),(bs [119,101,98]),(bs [100,98,45,49]),(bs [88,95,57])]) (RowIs.lit (enc := Vn) (d := ByteArray.empty) (n := 6) (f := (cut 1 [vs (bs [97]),vs (bs [98]),vs (bs [99]),vs (bs [119,101,98]),vs (bs [100,98,45,49]),vs (bs [88,95,57])])) [(bs [97]),(bs [98]),(bs [99]),(bs [119,101,98]),(bs [100,98,45,49]),(bs [88,95,57])] rfl (fun | 0,_ => rfl | 1,_ => rfl | 2,_ => rfl | 3,_ => rfl | 4,_ => rfl | 5,_ => rfl | n + 6,h => absurd h (by omega)))) (an (As p0 6 r3 hr3) (an tv (an g4.1 (an g4.2 (an g5 tv))))))) ?_)
 obtain rfl := sj hm
 exact DW.ret (Ak [.box (pm (Ah r3.2))] [] (pS ([(bs [97]),(bs [98]),(bs [99]),(bs [119,101,98]),(bs [100,98,45,49]),(bs [88,95,57])].getD (Int.toNat r3.1) ByteArray.empty)))
abbrev o36 (ks : List Nat) (b : Bool) (RES : ByteArray × Al) : Orc := .call 110 ks b (pS RES.1) [.box (pm (Ah RES.2))] []

abbrev Zj (p0 : ByteArray) (k1 : Int) : Nat × MV := (57,pB (!((((Bl p0 (Int.toNat k1)) : Nat) : Int) == 45)))
theorem AaF (p0 : ByteArray) (RES : Bool) (hm : Qn p0 = some RES) : Spec Tryz.prog 174 [pS p0] [] (pB RES) [] [] := by
 unfold Qn at hm
 refine SO Tryz.func174 rfl rfl [(0,pS p0)] [] ?_
 intro cx hnt
 refine Sq (RK hnt (.no :: []) [(0,pS p0)] [] tv ?_)
 refine Sq (Sq ?_)
 refine Jn (ι := Bool) (fun (y1 : Bool) => Ao [(0,pS p0),(17,pB y1)] []) (fun y1 => (Mx p0) y1 = some RES) ?_ ?_
 ·intro y1 hm
  unfold Mx at hm
  refine Ag hm ?_ ?_
  ·intro h4 hm
   refine Sq (RK hnt (.no :: []) [(2,pB false)] [] tv ?_)
   obtain rfl := sj hm
   exact DW.ret (Ak [] [] (pB false))
  ·intro h4 hm
   refine Sk ?_
   refine Sq (Sq (RK hnt (.no :: []) [(0,pS p0),(3,pI 0)] [] tv ?_))
   refine Bk ?_
   obtain ⟨hc1,hm⟩ := go1 hm
   refine DW.forO (fun (k1 : Int) (s1 : Unit) => Ao [(0,pS p0),(3,pI k1)] []) (lo := 0) (hi := ((p0.size : Nat) : Int)) hm .refl ?_
   intro k1 s1 n1 hk1 hs1 he1
   refine Sq (Sq (RD hnt (nn 4 []) [] [(21,pB (decide (k1 < ((p0.size : Nat) : Int))))] [] [] tv ?_))
   refine Cm (decide (k1 < ((p0.size : Nat) : Int))) ?_ ?_
   ·intro h55
    have hlt1 : k1 < ((p0.size : Nat) : Int) := by have := of_decide_eq_true h55; omega
    have hm := hs1 hlt1
    unfold Xg at hm
    refine Sk ?_
    refine Sq (Bk ?_)
    obtain ⟨g56,hm⟩ := go1 hm
    refine Sq (RD hnt (nn 4 []) [21] [(4,.p (vk .u8 (((Bl p0 (Int.toNat k1)) : Nat) : Int)))] [] [] (an g56.1 (an g56.2 tv)) ?_)
    refine Sq (DW.regJ (sl2 := [(0,pS p0),(3,pI k1),(57,pB (!((((((decide ((((Bl p0 (Int.toNat k1)) : Nat) : Int) ≥ 97)) && (decide ((((Bl p0 (Int.toNat k1)) : Nat) : Int) ≤ 122))) || ((decide ((((Bl p0 (Int.toNat k1)) : Nat) : Int) ≥ 65)) && (decide ((((Bl p0 (Int.toNat k1)) : Nat) : Int) ≤ 90)))) || ((decide ((((Bl p0 (Int.toNat k1)) : Nat) : Int) ≥ 48)) && (decide ((((Bl p0 (Int.toNat k1)) : Nat) : Int) ≤ 57)))) || ((((Bl p0 (Int.toNat k1)) : Nat) : Int) == 95)) || ((((Bl p0 (Int.toNat k1)) : Nat) : Int) == 45))))]) (ob2 := []) ?_ ?_)
    ·rcases bt (decide ((((Bl p0 (Int.toNat k1)) : Nat) : Int) ≥ 97)) with h57 | h57
     ·rcases bt (decide ((((Bl p0 (Int.toNat k1)) : Nat) : Int) ≤ 122)) with h58 | h58
      ·exact RT hnt (nn 5 (pT :: .no :: sk 6 (pT :: .no :: sk 6 (pT :: .no :: sk 2 (pT :: .no :: sk 2 (pT :: .no :: [])))))) [(57,pB false)] (an3 h57 (an5 h58 (an5 tt (an6 tt tv)))) (by kernel_rfl) (.cons rfl (.of_eq (by rw [h57,h58]; try rfl)) .nil)
      ·rcases bt (decide ((((Bl p0 (Int.toNat k1)) : Nat) : Int) ≥ 65)) with h59 | h59
       ·rcases bt (decide ((((Bl p0 (Int.toNat k1)) : Nat) : Int) ≤ 90)) with h60 | h60
        ·exact RT hnt (nn 5 (pT :: nn 6 (pT :: pF :: .no :: sk 6 (pT :: .no :: sk 2 (pT :: .no :: sk 2 (pT :: .no :: [])))))) [(57,pB false)] (an3 h57 (an3 h58 (an2 h59 (an h58 (an h59 (an h58 (an5 h60 (an6 tt tv)))))))) (by kernel_rfl) (.cons rfl (.of_eq (by rw [h57,h58,h59,h60]; try rfl)) .nil)
        ·rcases bt (decide ((((Bl p0 (Int.toNat k1)) : Nat) : Int) ≥ 48)) with h61 | h61
         ·rcases bt (decide ((((Bl p0 (Int.toNat k1)) : Nat) : Int) ≤ 57)) with h62 | h62
          ·exact RT hnt (nn 5 (pT :: nn 6 (pT :: pF :: nn 6 (pT :: pF :: .no :: sk 2 (pT :: .no :: sk 2 (pT :: .no :: [])))))) [(57,pB false)] (an3 h57 (an3 h58 (an2 h59 (an h58 (an h59 (an h58 (an3 h60 (an2 h61 (an h60 (an h61 (an h60 (an3 h62 (an3 tt tv))))))))))))) (by kernel_rfl) (.cons rfl (.of_eq (by rw [h57,h58,h59,h60,h61,h62]; try rfl)) .nil)
          ·rcases bt ((((Bl p0 (Int.toNat k1)) : Nat) : Int) == 95) with h63 | h63
           ·exact RT hnt (nn 5 (pT :: nn 6 (pT :: pF :: nn 6 (pT :: pF :: nn 3 (pF :: .no :: sk 2 (pT :: .no :: [])))))) [(57,pB false)] (an3 h57 (an3 h58 (an2 h59 (an h58 (an h59 (an h58 (an3 h60 (an2 h61 (an h60 (an h61 (an h60 (an3 h62 (an3 h63 tv))))))))))))) (by kernel_rfl) (.cons rfl (.of_eq (by rw [h57,h58,h59,h60,h61,h62,h63]; try rfl)) .nil)
           ·exact RT hnt (nn 5 (pT :: nn 6 (pT :: pF :: nn 6 (pT :: pF :: nn 3 (pF :: nn 3 (pF :: .no :: [])))))) [(Zj p0 k1)] (an3 h57 (an3 h58 (an2 h59 (an h58 (an h59 (an h58 (an3 h60 (an2 h61 (an h60 (an h61 (an h60 (an3 h62 (an3 h63 tv))))))))))))) (by kernel_rfl) (.cons rfl (.of_eq (by rw [h57,h58,h59,h60,h61,h62,h63]; try rfl)) .nil)
         ·rcases bt ((((Bl p0 (Int.toNat k1)) : Nat) : Int) == 95) with h64 | h64
          ·exact RT hnt (nn 5 (pT :: nn 6 (pT :: pF :: nn 4 (sk 2 (pF :: pF :: nn 3 (pF :: .no :: sk 2 (pT :: .no :: []))))))) [(57,pB false)] (an3 h57 (an3 h58 (an2 h59 (an h58 (an h59 (an h58 (an3 h60 (an2 h61 (an h60 (an h61 (an h60 (an3 ff (an3 h64 tv))))))))))))) (by kernel_rfl) (.cons rfl (.of_eq (by rw [h57,h58,h59,h60,h61,h64]; try rfl)) .nil)
          ·exact RT hnt (nn 5 (pT :: nn 6 (pT :: pF :: nn 4 (sk 2 (pF :: pF :: nn 3 (pF :: nn 3 (pF :: .no :: []))))))) [(Zj p0 k1)] (an3 h57 (an3 h58 (an2 h59 (an h58 (an h59 (an h58 (an3 h60 (an2 h61 (an h60 (an h61 (an h60 (an3 ff (an3 h64 tv))))))))))))) (by kernel_rfl) (.cons rfl (.of_eq (by rw [h57,h58,h59,h60,h61,h64]; try rfl)) .nil)
       ·rcases bt (decide ((((Bl p0 (Int.toNat k1)) : Nat) : Int) ≥ 48)) with h65 | h65
        ·rcases bt (decide ((((Bl p0 (Int.toNat k1)) : Nat) : Int) ≤ 57)) with h66 | h66
         ·exact RT hnt (nn 5 (pT :: nn 4 (sk 2 (pF :: pF :: nn 6 (pT :: pF :: .no :: sk 2 (pT :: .no :: sk 2 (pT :: .no :: []))))))) [(57,pB false)] (an3 h57 (an3 h58 (an2 h59 (an h58 (an h59 (an h58 (an3 ff (an2 h65 (an ff (an h65 (an ff (an3 h66 (an3 tt tv))))))))))))) (by kernel_rfl) (.cons rfl (.of_eq (by rw [h57,h58,h59,h65,h66]; try rfl)) .nil)
         ·rcases bt ((((Bl p0 (Int.toNat k1)) : Nat) : Int) == 95) with h67 | h67
          ·exact RT hnt (nn 5 (pT :: nn 4 (sk 2 (pF :: pF :: nn 6 (pT :: pF :: nn 3 (pF :: .no :: sk 2 (pT :: .no :: []))))))) [(57,pB false)] (an3 h57 (an3 h58 (an2 h59 (an h58 (an h59 (an h58 (an3 ff (an2 h65 (an ff (an h65 (an ff (an3 h66 (an3 h67 tv))))))))))))) (by kernel_rfl) (.cons rfl (.of_eq (by rw [h57,h58,h59,h65,h66,h67]; try rfl)) .nil)
          ·exact RT hnt (nn 5 (pT :: nn 4 (sk 2 (pF :: pF :: nn 6 (pT :: pF :: nn 3 (pF :: nn 3 (pF :: .no :: []))))))) [(Zj p0 k1)] (an3 h57 (an3 h58 (an2 h59 (an h58 (an h59 (an h58 (an3 ff (an2 h65 (an ff (an h65 (an ff (an3 h66 (an3 h67 tv))))))))))))) (by kernel_rfl) (.cons rfl (.of_eq (by rw [h57,h58,h59,h65,h66,h67]; try rfl)) .nil)
        ·rcases bt ((((Bl p0 (Int.toNat k1)) : Nat) : Int) == 95) with h68 | h68
         ·exact RT hnt (nn 5 (pT :: nn 4 (sk 2 (pF :: pF :: nn 4 (sk 2 (pF :: pF :: nn 3 (pF :: .no :: sk 2 (pT :: .no :: [])))))))) [(57,pB false)] (an3 h57 (an3 h58 (an2 h59 (an h58 (an h59 (an h58 (an3 ff (an2 h65 (an ff (an h65 (an4 ff (an3 h68 tv)))))))))))) (by kernel_rfl) (.cons rfl (.of_eq (by rw [h57,h58,h59,h65,h68]; try rfl)) .nil)
         ·exact RT hnt (nn 5 (pT :: nn 4 (sk 2 (pF :: pF :: nn 4 (sk 2 (pF :: pF :: nn 3 (pF :: nn 3 (pF :: .no :: [])))))))) [(Zj p0 k1)] (an3 h57 (an3 h58 (an2 h59 (an h58 (an h59 (an h58 (an3 ff (an2 h65 (an ff (an h65 (an4 ff (an3 h68 tv)))))))))))) (by kernel_rfl) (.cons rfl (.of_eq (by rw [h57,h58,h59,h65,h68]; try rfl)) .nil)
     ·rcases bt (decide ((((Bl p0 (Int.toNat k1)) : Nat) : Int) ≥ 65)) with h69 | h69
      ·rcases bt (decide ((((Bl p0 (Int.toNat k1)) : Nat) : Int) ≤ 90)) with h70 | h70
       ·exact RT hnt (nn 3 (sk 2 (pF :: nn 6 (pT :: pF :: .no :: sk 6 (pT :: .no :: sk 2 (pT :: .no :: sk 2 (pT :: .no :: []))))))) [(57,pB false)] (an3 h57 (an3 ff (an2 h69 (an ff (an h69 (an ff (an5 h70 (an6 tt tv)))))))) (by kernel_rfl) (.cons rfl (.of_eq (by rw [h57,h69,h70]; try rfl)) .nil)
       ·rcases bt (decide ((((Bl p0 (Int.toNat k1)) : Nat) : Int) ≥ 48)) with h71 | h71
        ·rcases bt (decide ((((Bl p0 (Int.toNat k1)) : Nat) : Int) ≤ 57)) with h72 | h72
         ·exact RT hnt (nn 3 (sk 2 (pF :: nn 6 (pT :: pF :: nn 6 (pT :: pF :: .no :: sk 2 (pT :: .no :: sk 2 (pT :: .no :: []))))))) [(57,pB false)] (an3 h57 (an3 ff (an2 h69 (an ff (an h69 (an ff (an3 h70 (an2 h71 (an h70 (an h71 (an h70 (an3 h72 (an3 tt tv))))))))))))) (by kernel_rfl) (.cons rfl (.of_eq (by rw [h57,h69,h70,h71,h72]; try rfl)) .nil)
         ·rcases bt ((((Bl p0 (Int.toNat k1)) : Nat) : Int) == 95) with h73 | h73
          ·exact RT hnt (nn 3 (sk 2 (pF :: nn 6 (pT :: pF :: nn 6 (pT :: pF :: nn 3 (pF :: .no :: sk 2 (pT :: .no :: []))))))) [(57,pB false)] (an3 h57 (an3 ff (an2 h69 (an ff (an h69 (an ff (an3 h70 (an2 h71 (an h70 (an h71 (an h70 (an3 h72 (an3 h73 tv))))))))))))) (by kernel_rfl) (.cons rfl (.of_eq (by rw [h57,h69,h70,h71,h72,h73]; try rfl)) .nil)
          ·exact RT hnt (nn 3 (sk 2 (pF :: nn 6 (pT :: pF :: nn 6 (pT :: pF :: nn 3 (pF :: nn 3 (pF :: .no :: []))))))) [(Zj p0 k1)] (an3 h57 (an3 ff (an2 h69 (an ff (an h69 (an ff (an3 h70 (an2 h71 (an h70 (an h71 (an h70 (an3 h72 (an3 h73 tv))))))))))))) (by kernel_rfl) (.cons rfl (.of_eq (by rw [h57,h69,h70,h71,h72,h73]; try rfl)) .nil)
        ·rcases bt ((((Bl p0 (Int.toNat k1)) : Nat) : Int) == 95) with h74 | h74
         ·exact RT hnt (nn 3 (sk 2 (pF :: nn 6 (pT :: pF :: nn 4 (sk 2 (pF :: pF :: nn 3 (pF :: .no :: sk 2 (pT :: .no :: [])))))))) [(57,pB false)] (an3 h57 (an3 ff (an2 h69 (an ff (an h69 (an ff (an3 h70 (an2 h71 (an h70 (an h71 (an h70 (an3 ff (an3 h74 tv))))))))))))) (by kernel_rfl) (.cons rfl (.of_eq (by rw [h57,h69,h70,h71,h74]; try rfl)) .nil)
         ·exact RT hnt (nn 3 (sk 2 (pF :: nn 6 (pT :: pF :: nn 4 (sk 2 (pF :: pF :: nn 3 (pF :: nn 3 (pF :: .no :: [])))))))) [(Zj p0 k1)] (an3 h57 (an3 ff (an2 h69 (an ff (an h69 (an ff (an3 h70 (an2 h71 (an h70 (an h71 (an h70 (an3 ff (an3 h74 tv))))))))))))) (by kernel_rfl) (.cons rfl (.of_eq (by rw [h57,h69,h70,h71,h74]; try rfl)) .nil)
      ·rcases bt (decide ((((Bl p0 (Int.toNat k1)) : Nat) : Int) ≥ 48)) with h75 | h75
       ·rcases bt (decide ((((Bl p0 (Int.toNat k1)) : Nat) : Int) ≤ 57)) with h76 | h76
        ·exact RT hnt (nn 3 (sk 2 (pF :: nn 4 (sk 2 (pF :: pF :: nn 6 (pT :: pF :: .no :: sk 2 (pT :: .no :: sk 2 (pT :: .no :: [])))))))) [(57,pB false)] (an3 h57 (an3 ff (an2 h69 (an ff (an h69 (an4 ff (an2 h75 (an ff (an h75 (an ff (an3 h76 (an3 tt tv)))))))))))) (by kernel_rfl) (.cons rfl (.of_eq (by rw [h57,h69,h75,h76]; try rfl)) .nil)
        ·rcases bt ((((Bl p0 (Int.toNat k1)) : Nat) : Int) == 95) with h77 | h77
         ·exact RT hnt (nn 3 (sk 2 (pF :: nn 4 (sk 2 (pF :: pF :: nn 6 (pT :: pF :: nn 3 (pF :: .no :: sk 2 (pT :: .no :: [])))))))) [(57,pB false)] (an3 h57 (an3 ff (an2 h69 (an ff (an h69 (an4 ff (an2 h75 (an ff (an h75 (an ff (an3 h76 (an3 h77 tv)))))))))))) (by kernel_rfl) (.cons rfl (.of_eq (by rw [h57,h69,h75,h76,h77]; try rfl)) .nil)
         ·exact RT hnt (nn 3 (sk 2 (pF :: nn 4 (sk 2 (pF :: pF :: nn 6 (pT :: pF :: nn 3 (pF :: nn 3 (pF :: .no :: [])))))))) [(Zj p0 k1)] (an3 h57 (an3 ff (an2 h69 (an ff (an h69 (an4 ff (an2 h75 (an ff (an h75 (an ff (an3 h76 (an3 h77 tv)))))))))))) (by kernel_rfl) (.cons rfl (.of_eq (by rw [h57,h69,h75,h76,h77]; try rfl)) .nil)
       ·rcases bt ((((Bl p0 (Int.toNat k1)) : Nat) : Int) == 95) with h78 | h78
        ·exact RT hnt (nn 3 (sk 2 (pF :: nn 4 (sk 2 (pF :: pF :: nn 4 (sk 2 (pF :: pF :: nn 3 (pF :: .no :: sk 2 (pT :: .no :: []))))))))) [(57,pB false)] (an3 h57 (an3 ff (an2 h69 (an ff (an h69 (an4 ff (an2 h75 (an ff (an h75 (an4 ff (an3 h78 tv))))))))))) (by kernel_rfl) (.cons rfl (.of_eq (by rw [h57,h69,h75,h78]; try rfl)) .nil)
        ·exact RT hnt (nn 3 (sk 2 (pF :: nn 4 (sk 2 (pF :: pF :: nn 4 (sk 2 (pF :: pF :: nn 3 (pF :: nn 3 (pF :: .no :: []))))))))) [(Zj p0 k1)] (an3 h57 (an3 ff (an2 h69 (an ff (an h69 (an4 ff (an2 h75 (an ff (an h75 (an4 ff (an3 h78 tv))))))))))) (by kernel_rfl) (.cons rfl (.of_eq (by rw [h57,h69,h75,h78]; try rfl)) .nil)
    ·refine Ag hm ?_ ?_
     ·intro h79 hm
      refine Sq (RK hnt (.no :: []) [(2,pB false)] [] tv ?_)
      obtain rfl := sj hm
      exact DW.ret (Ak [] [] (pB false))
     ·intro h79 hm
      refine Sk ?_
      refine DW.done ?_
      show DW _ _ _ _ _
      refine RK hnt (nn 3 []) [(0,pS p0),(3,pI (w64 (k1 + 1)))] [] tv ?_
      exact jD () ⟨hlt1,hm⟩ (Conv.tp [(3,pI (w64 (k1 + 1)))] [] (by kernel_rfl) (.cons rfl (.of_eq (congrArg pI (Tw (lo := 0) (hi := ((p0.size : Nat) : Int)) (by omega) hk1 hlt1 (by omega)))) .nil) .nil)
   ·intro h55
    have hge1 : ¬ k1 < ((p0.size : Nat) : Int) := by have := of_decide_eq_false h55; omega
    have hm := he1 hge1
    unfold AcA at hm
    refine DW.exit ?_
    refine Ar ?_
    refine Au ?_
    refine Ap ?_
    show DW _ _ _ _ _
    refine Sq (RK hnt (.no :: []) [(2,pB true)] [] tv ?_)
    obtain rfl := sj hm
    exact DW.ret (Ak [] [] (pB true))
 ·rcases bt (((p0.size : Nat) : Int) == 0) with h1 | h1
  ·replace hm := Bg h1 hm
   refine RK hnt (nn 4 (sk 3 (pT :: .no :: sk 3 (pT :: [])))) [(0,pS p0),(17,pB true)] [] (an4 h1 (an4 tt tv)) ?_
   exact jD true hm .refl
  ·replace hm := Bh h1 hm
   rcases bt (decide (((p0.size : Nat) : Int) > 32)) with h2 | h2
   ·replace hm := Bg h2 hm
    refine RK hnt (nn 7 (pF :: .no :: sk 3 (pT :: []))) [(0,pS p0),(17,pB true)] [] (an4 h1 (an4 h2 tv)) ?_
    exact jD true hm .refl
   ·replace hm := Bh h2 hm
    obtain ⟨g3,hm⟩ := go1 hm
    refine RK hnt (nn 7 (pF :: nn 4 (pF :: []))) [(0,pS p0),(17,pB ((((Bl p0 0) : Nat) : Int) == 45))] [] (an4 h1 (an2 h2 (an (nn0 0) (an (ltc g3) (an2 h2 tv))))) ?_
    exact jD ((((Bl p0 0) : Nat) : Int) == 45) hm .refl
abbrev o40 (ks : List Nat) (b : Bool) (RES : Bool) : Orc := .call 174 ks b (pB RES) [] []

abbrev Ee (p0 : Ae) (p1 : Int) := (p0.nodes.getD (Int.toNat p1) Aw)
abbrev Adf (p0 : Ae) (p1 : Int) : Nat × Obj := (1040,bx (pm (An (Ee p0 p1))))
abbrev AcX (p0 : Ae) : Nat × Obj := (1016,bx (pm (Aq p0)))
abbrev c39e4 (p0 : Ae) (k1 : Int) := (p0.nodes.getD (Int.toNat k1) Aw)
theorem Agl (p0 : Ae) (p1 : Int) (RES : Bool) (hm : Vh p0 p1 = some RES) : Spec Tryz.prog 169 [.p (.agg (Aq p0)),pI p1] [] (pB RES) [] [] := by
 unfold Vh at hm
 refine SO Tryz.func169 rfl rfl [(0,.p (.agg (Aq p0))),(1,pI p1)] [] ?_
 intro cx hnt
 refine Sq (RK hnt (nn 2 []) [(1,pI p1),(2,rr 1016)] [(AcX p0)] tv ?_)
 obtain ⟨g1,hm⟩ := go1 hm
 refine Sq (RD hnt (nn 7 []) [] [(5,rr 1040)] [] [(Adf p0 p1)] (an g1.1 (an g1.2 tv)) ?_)
 refine Sq (Sq (DW.regJ (sl2 := [(1,pI p1),(2,rr 1016),(5,rr 1040),(40,pB (((((((Ee p0 p1).kind != 0) && ((Ee p0 p1).kind != 1)) || (decide ((Ee p0 p1).control < 0))) || (decide ((Ee p0 p1).control > 31))) || (decide ((Ee p0 p1).owner < 0))) || (decide ((Ee p0 p1).owner > 1048576))))]) (ob2 := [(AcX p0),(Adf p0 p1)]) ?_ ?_))
 ·rcases bt ((Ee p0 p1).kind != 0) with h2 | h2
  ·rcases bt ((Ee p0 p1).kind != 1) with h3 | h3
   ·exact RT hnt (nn 7 (pT :: .no :: sk 3 (pT :: .no :: sk 3 (pT :: .no :: sk 3 (pT :: .no :: sk 3 (pT :: [])))))) [(40,pB true)] (an4 h2 (an4 h3 (an6 tt (an6 tt tv)))) (by kernel_rfl) (.cons rfl (.of_eq (by rw [h2,h3]; try rfl)) .nil)
   ·rcases bt (decide ((Ee p0 p1).control < 0)) with h4 | h4
    ·exact RT hnt (nn 7 (pT :: nn 4 (pF :: .no :: sk 3 (pT :: .no :: sk 3 (pT :: .no :: sk 3 (pT :: [])))))) [(40,pB true)] (an4 h2 (an4 h3 (an4 h4 (an2 tt (an6 tt tv))))) (by kernel_rfl) (.cons rfl (.of_eq (by rw [h2,h3,h4]; try rfl)) .nil)
    ·rcases bt (decide ((Ee p0 p1).control > 31)) with h5 | h5
     ·exact RT hnt (nn 7 (pT :: nn 4 (pF :: nn 4 (pF :: .no :: sk 3 (pT :: .no :: sk 3 (pT :: [])))))) [(40,pB true)] (an4 h2 (an4 h3 (an4 h4 (an4 h5 (an4 tt tv))))) (by kernel_rfl) (.cons rfl (.of_eq (by rw [h2,h3,h4,h5]; try rfl)) .nil)
     ·rcases bt (decide ((Ee p0 p1).owner < 0)) with h6 | h6
      ·exact RT hnt (nn 7 (pT :: nn 4 (pF :: nn 4 (pF :: nn 4 (pF :: .no :: sk 3 (pT :: [])))))) [(40,pB true)] (an4 h2 (an4 h3 (an4 h4 (an4 h5 (an4 h6 tv))))) (by kernel_rfl) (.cons rfl (.of_eq (by rw [h2,h3,h4,h5,h6]; try rfl)) .nil)
      ·exact RT hnt (nn 7 (pT :: nn 4 (pF :: nn 4 (pF :: nn 4 (pF :: nn 4 (pF :: [])))))) [(40,pB (decide ((Ee p0 p1).owner > 1048576)))] (an4 h2 (an4 h3 (an4 h4 (an4 h5 (an4 h6 tv))))) (by kernel_rfl) (.cons rfl (.of_eq (by rw [h2,h3,h4,h5,h6]; try rfl)) .nil)
  ·rcases bt (decide ((Ee p0 p1).control < 0)) with h7 | h7
   ·exact RT hnt (nn 4 (sk 3 (pF :: nn 4 (pF :: .no :: sk 3 (pT :: .no :: sk 3 (pT :: .no :: sk 3 (pT :: []))))))) [(40,pB true)] (an4 h2 (an4 ff (an4 h7 (an2 tt (an6 tt tv))))) (by kernel_rfl) (.cons rfl (.of_eq (by rw [h2,h7]; try rfl)) .nil)
   ·rcases bt (decide ((Ee p0 p1).control > 31)) with h8 | h8
    ·exact RT hnt (nn 4 (sk 3 (pF :: nn 4 (pF :: nn 4 (pF :: .no :: sk 3 (pT :: .no :: sk 3 (pT :: []))))))) [(40,pB true)] (an4 h2 (an4 ff (an4 h7 (an4 h8 (an4 tt tv))))) (by kernel_rfl) (.cons rfl (.of_eq (by rw [h2,h7,h8]; try rfl)) .nil)
    ·rcases bt (decide ((Ee p0 p1).owner < 0)) with h9 | h9
     ·exact RT hnt (nn 4 (sk 3 (pF :: nn 4 (pF :: nn 4 (pF :: nn 4 (pF :: .no :: sk 3 (pT :: []))))))) [(40,pB true)] (an4 h2 (an4 ff (an4 h7 (an4 h8 (an4 h9 tv))))) (by kernel_rfl) (.cons rfl (.of_eq (by rw [h2,h7,h8,h9]; try rfl)) .nil)
     ·exact RT hnt (nn 4 (sk 3 (pF :: nn 4 (pF :: nn 4 (pF :: nn 4 (pF :: nn 4 (pF :: []))))))) [(40,pB (decide ((Ee p0 p1).owner > 1048576)))] (an4 h2 (an4 ff (an4 h7 (an4 h8 (an4 h9 tv))))) (by kernel_rfl) (.cons rfl (.of_eq (by rw [h2,h7,h8,h9]; try rfl)) .nil)
 ·refine Ag hm ?_ ?_
  ·intro h10 hm
   refine Sq (RK hnt (.no :: []) [(4,pB false)] [] tv ?_)
   obtain rfl := sj hm
   exact DW.ret (Ak [] [] (pB false))
  ·intro h10 hm
   refine Sk ?_
   refine Sq (Sq (RD hnt (nn 2 []) [40] [(42,pB (p1 == 0))] [] [] tv ?_))
   refine Ag hm ?_ ?_
   ·intro h11 hm
    refine Sq (DW.regJ (sl2 := [(4,pB (((((Ee p0 p1).id == 1) && ((Ee p0 p1).parent == 0)) && (Dx (Ee p0 p1).name ByteArray.empty)) && ((Ee p0 p1).kind == 0)))]) (ob2 := []) ?_ ?_)
    ·rcases bt ((Ee p0 p1).id == 1) with h12 | h12
     ·rcases bt ((Ee p0 p1).parent == 0) with h13 | h13
      ·rcases bt (Dx (Ee p0 p1).name ByteArray.empty) with h14 | h14
       ·exact RT hnt (nn 7 (pT :: nn 4 (pT :: nn 4 (pT :: .no :: [])))) [(4,pB ((Ee p0 p1).kind == 0))] (an4 h12 (an4 h13 (an4 h14 tv))) (by kernel_rfl) (.cons rfl (.of_eq (by rw [h12,h13,h14]; try rfl)) .nil)
       ·exact RT hnt (nn 7 (pT :: nn 4 (pT :: .no :: sk 3 (pF :: .no :: [])))) [(4,pB false)] (an4 h12 (an4 h13 (an4 h14 tv))) (by kernel_rfl) (.cons rfl (.of_eq (by rw [h12,h13,h14]; try rfl)) .nil)
      ·exact RT hnt (nn 7 (pT :: .no :: sk 3 (pF :: .no :: sk 3 (pF :: .no :: [])))) [(4,pB false)] (an4 h12 (an4 h13 (an4 ff tv))) (by kernel_rfl) (.cons rfl (.of_eq (by rw [h12,h13]; try rfl)) .nil)
     ·exact RT hnt (nn 4 (sk 3 (pF :: .no :: sk 3 (pF :: .no :: sk 3 (pF :: .no :: []))))) [(4,pB false)] (an4 h12 (an2 ff (an6 ff tv))) (by kernel_rfl) (.cons rfl (.of_eq (by rw [h12]; try rfl)) .nil)
    ·refine DW.ret ?_
     obtain rfl := sj hm
     exact Ak [] [] (pB (((((Ee p0 p1).id == 1) && ((Ee p0 p1).parent == 0)) && (Dx (Ee p0 p1).name ByteArray.empty)) && ((Ee p0 p1).kind == 0)))
   ·intro h11 hm
    refine Sk ?_
    obtain ⟨g15,hm⟩ := go1 hm
    refine Sq (Sq ?_)
    refine Jn (ι := Bool) (fun (y1 : Bool) => Ao [(1,pI p1),(2,rr 1016),(5,rr 1040),(76,pB y1)] [(AcX p0),(Adf p0 p1)]) (fun y1 => (Qz p0 p1) y1 = some RES) ?_ ?_
    ·intro y1 hm
     unfold Qz at hm
     refine Ag hm ?_ ?_
     ·intro h18 hm
      refine Sq (RK hnt (.no :: []) [(4,pB false)] [] tv ?_)
      obtain rfl := sj hm
      exact DW.ret (Ak [] [] (pB false))
     ·intro h18 hm
      refine Sk ?_
      refine Sq (RD hnt (.no :: []) [76] [(6,pB false)] [] [] tv ?_)
      refine Sq (Sq (RD hnt (.no :: []) [] [(7,pI 0)] [] [] tv ?_))
      refine Bk ?_
      obtain ⟨hc1,hm⟩ := go1 hm
      refine DW.forO (fun (k1 : Int) (s1 : Bool) => Ao [(1,pI p1),(2,rr 1016),(5,rr 1040),(6,pB s1),(7,pI k1)] [(AcX p0),(Adf p0 p1)]) (lo := 0) (hi := p1) hm Conv.eqK ?_
      intro k1 s1 n1 hk1 hs1 he1
      refine Sq (Sq (RD hnt (nn 3 []) [] [(79,pB (decide (k1 < p1)))] [] [] tv ?_))
      refine Cm (decide (k1 < p1)) ?_ ?_
      ·intro h32
       have hlt1 : k1 < p1 := by have := of_decide_eq_true h32; omega
       have hm := hs1 hlt1
       unfold Aau at hm
       refine Sk ?_
       refine Sq (Bk ?_)
       refine Sq ?_
       refine Jn (ι := Bool) (fun (y5 : Bool) => Ao [(1,pI p1),(2,rr 1016),(5,rr 1040),(6,pB y5),(7,pI k1)] [(AcX p0),(Adf p0 p1)]) (fun y5 => (Ov p0 p1 k1 n1) y5 = some RES) ?_ ?_
       ·intro y5 hm
        unfold Ov at hm
        obtain ⟨g35,hm⟩ := go1 hm
        refine Sq ?_
        refine Jn (ι := Bool) (fun (y6 : Bool) => Ao [(1,pI p1),(2,rr 1016),(5,rr 1040),(6,pB y5),(7,pI k1),(113,pB y6)] [(AcX p0),(Adf p0 p1)]) (fun y6 => (Ot n1 y5) y6 = some RES) ?_ ?_
        ·intro y6 hm
         unfold Ot at hm
         refine Ag hm ?_ ?_
         ·intro h38 hm
          refine Sq (RK hnt (.no :: []) [(4,pB false)] [] tv ?_)
          obtain rfl := sj hm
          exact DW.ret (Ak [] [] (pB false))
         ·intro h38 hm
          refine Sk ?_
          refine DW.done ?_
          show DW _ _ _ _ _
          refine RD hnt (nn 3 []) [113] [(7,pI (w64 (k1 + 1)))] [] [] tv ?_
          exact jD y5 ⟨hlt1,hm⟩ (Conv.tp [(7,pI (w64 (k1 + 1)))] [] (by kernel_rfl) (.cons rfl (.of_eq (congrArg pI (Tw (lo := 0) (hi := p1) (by omega) hk1 hlt1 (by omega)))) .nil) .nil)
        ·rcases bt ((c39e4 p0 k1).parent == (Ee p0 p1).parent) with h36 | h36
         ·replace hm := Bg h36 hm
          obtain ⟨g37,hm⟩ := go1 hm
          refine RD hnt (nn 19 (pT :: [])) [] [(113,pB (Dx (c39e4 p0 k1).name (Ee p0 p1).name))] [] [] (an g35.1 (an g35.2 (an4 h36 (an g37.1 (an g37.2 (an6 h36 tv)))))) ?_
          exact jD (Dx (c39e4 p0 k1).name (Ee p0 p1).name) hm Conv.eqK
         ·replace hm := Bh h36 hm
          refine RD hnt (nn 10 (sk 9 (pF :: []))) [] [(113,pB false)] [] [] (an g35.1 (an g35.2 (an4 h36 (an6 h36 tv)))) ?_
          exact jD false hm Conv.eqK
       ·rcases bt s1 with h33 | h33
        ·replace hm := Bg h33 hm
         refine RD hnt (nn 2 (sk 9 (pT :: .no :: []))) [79] [(6,pB true)] [] [] (an4 h33 (an6 h33 tv)) ?_
         exact jD true hm Conv.eqK
        ·replace hm := Bh h33 hm
         obtain ⟨g34,hm⟩ := go1 hm
         refine RD hnt (nn 11 (pF :: .no :: [])) [79] [(6,pB ((c39e4 p0 k1).id == (Ee p0 p1).parent))] [] [] (an4 h33 (an g34.1 (an g34.2 (an6 h33 tv)))) ?_
         exact jD ((c39e4 p0 k1).id == (Ee p0 p1).parent) hm Conv.eqK
      ·intro h32
       have hge1 : ¬ k1 < p1 := by have := of_decide_eq_false h32; omega
       have hm := he1 hge1
       unfold AdG at hm
       refine DW.exit ?_
       refine Ar ?_
       refine Au ?_
       refine Ap ?_
       show DW _ _ _ _ _
       refine Sq (RK hnt (nn 2 []) [(4,pB s1)] [] tv ?_)
       obtain rfl := sj hm
       exact DW.ret (Ak [] [] (pB s1))
    ·rcases bt (decide ((Ee p0 p1).id ≤ (p0.nodes.getD (Int.toNat (w64 (p1 - 1))) Aw).id)) with h16 | h16
     ·replace hm := Bg h16 hm
      refine RD hnt (nn 11 (sk 4 (pT :: []))) [42] [(76,pB true)] [] [] (an g15.1 (an g15.2 (an5 h16 tv))) ?_
      exact jD true hm Conv.eqK
     ·replace hm := Bh h16 hm
      obtain ⟨r17,hr17,hm⟩ := bo hm
      refine RD hnt (nn 13 (o40 [] true r17 :: .no :: pF :: [])) [42] [(76,pB (!r17))] [] [] (an g15.1 (an g15.2 (an3 h16 (an (AaF (Ee p0 p1).name r17 hr17) (an2 h16 tv))))) ?_
      exact jD (!r17) hm Conv.eqK
abbrev o39 (ks : List Nat) (b : Bool) (RES : Bool) : Orc := .call 169 ks b (pB RES) [] []
end Go.Dm

