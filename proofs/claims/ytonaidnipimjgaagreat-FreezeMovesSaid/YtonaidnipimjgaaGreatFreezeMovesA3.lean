/- Texts of the proof of FreezeMoves: the data machine, the models of the Go functions, their contracts. -/
import Derived.Test.YtonaidnipimjgaaGreatFreezeMovesA2
import Derived.Test.YtonaidnipimjgaaGreatFreezeMovesA1
import Derived.Test.YtonaidnipimjgaaGreatProg
set_option linter.unusedVariables false
set_option linter.unusedSimpArgs false
/- Plain theory, part 27: the library's partitions. -/
namespace Go.Dm
def PartQ (L : List Int) (a b : Nat) (r : Int × Bool × List Int) : Prop :=
 ∃ m : Nat,r.1 = (m : Int) ∧ a ≤ m ∧ m < b ∧ RP a b L r.2.2 ∧ (∀ k,a ≤ k → k < m → r.2.2.getD k 0 ≤ r.2.2.getD m 0) ∧ (∀ k,m < k → k < b → r.2.2.getD m 0 ≤ r.2.2.getD k 0)
structure PartI (L : List Int) (a b : Nat) (M : List Int) (i j : Nat) : Prop where
 rp : RP a b L M
 i1 : a + 1 ≤ i
 ij : i ≤ j + 1
 jb : j < b
 ja : a ≤ j
 lo : ∀ k,a + 1 ≤ k → k < i → M.getD k 0 < M.getD a 0
 hi : ∀ k,j < k → k < b → ¬ M.getD k 0 < M.getD a 0
theorem PartI.fin {L M : List Int} {a b i j : Nat} (hb : b ≤ L.length) (h : PartI L a b M i j) (hij : j < i) (t : Bool) : PartQ L a b ((j : Int),t,Dl M j a) := by
 have hM := h.rp.len
 have h1 := h.i1
 have h2 := h.ij
 have h3 := h.jb
 have h4 := h.ja
 have hj : j < M.length := by omega
 have ha : a < M.length := by omega
 have hg : ∀ r,(Dl M j a).getD r 0 = if r = a then M.getD j 0 else if r = j then M.getD a 0 else M.getD r 0 := fun r => Ht hj ha
 have hmid : (Dl M j a).getD j 0 = M.getD a 0 := by
  rw [hg]
  split
  ·rename_i e
   rw [e]
  ·rw [if_pos rfl]
 refine ⟨j,rfl,h4,h3,h.rp.trans (RP.swap (by omega) (by omega) (by omega) (by omega) (by omega)),?_,?_⟩
 ·intro k k1 k2
  simp only
  rw [hmid,hg]
  split
  ·have := h.lo j (by omega) (by omega)
   omega
  ·rw [if_neg (by omega)]
   have := h.lo k (by omega) (by omega)
   omega
 ·intro k k1 k2
  simp only
  rw [hmid,hg,if_neg (by omega),if_neg (by omega)]
  have := h.hi k k1 k2
  omega
theorem PartI.swap {L M : List Int} {a b i j : Nat} (hb : b ≤ L.length) (h : PartI L a b M i j) (hij : i ≤ j) (hi : ¬ M.getD i 0 < M.getD a 0) (hj : M.getD j 0 < M.getD a 0) : PartI L a b (Dl M i j) (i + 1) (j - 1) := by
 have hM := h.rp.len
 have h1 := h.i1
 have h3 := h.jb
 have hne : i ≠ j := fun e => by subst e; exact hi hj
 have hil : i < M.length := by omega
 have hjl : j < M.length := by omega
 have hg : ∀ r,(Dl M i j).getD r 0 = if r = j then M.getD i 0 else if r = i then M.getD j 0 else M.getD r 0 := fun r => Ht hil hjl
 have ha : (Dl M i j).getD a 0 = M.getD a 0 := by rw [hg,if_neg (by omega),if_neg (by omega)]
 refine ⟨h.rp.trans (RP.swap (by omega) (by omega) (by omega) (by omega) (by omega)),by omega,by omega,by omega,by omega,?_,?_⟩
 ·intro k k1 k2
  rw [ha,hg]
  by_cases e : k = i
  ·rw [if_neg (by omega),if_pos e]
   exact hj
  ·rw [if_neg (by omega),if_neg e]
   exact h.lo k k1 (by omega)
 ·intro k k1 k2
  rw [ha,hg]
  by_cases e : k = j
  ·rw [if_pos e]
   exact hi
  ·rw [if_neg e,if_neg (by omega)]
   exact h.hi k (by omega) k2
theorem PartI.incI {L M : List Int} {a b i j : Nat} (h : PartI L a b M i j) (hij : i ≤ j) (hi : M.getD i 0 < M.getD a 0) : PartI L a b M (i + 1) j := by
 refine ⟨h.rp,by have := h.i1; omega,by omega,h.jb,h.ja,fun k k1 k2 => ?_,h.hi⟩
 by_cases e : k = i
 ·subst e
  exact hi
 ·exact h.lo k k1 (by omega)
theorem PartI.decJ {L M : List Int} {a b i j : Nat} (h : PartI L a b M i j) (hij : i ≤ j) (hj : ¬ M.getD j 0 < M.getD a 0) : PartI L a b M i (j - 1) := by
 have h1 := h.i1
 have h3 := h.jb
 refine ⟨h.rp,by omega,by omega,by omega,by omega,h.lo,fun k k1 k2 => ?_⟩
 by_cases e : k = j
 ·subst e
  exact hj
 ·exact h.hi k (by omega) k2
theorem part_loop {L : List Int} {a b : Nat} (hb : b ≤ L.length) (hl : L.length ≤ 1000000) {M0 : List Int} {i0 j0 : Nat} (h0 : PartI L a b M0 i0 j0) : Ok (whileO (Gb (a : Int)) Dy (M0,(i0 : Int),(j0 : Int))) (PartQ L a b) := by
 have ea : Int.toNat (a : Int) = a := by omega
 refine Ok.while (fun s => ∃ i j : Nat,s.2.1 = (i : Int) ∧ s.2.2 = (j : Int) ∧ PartI L a b s.1 i j) (fun s => (s.2.2 + 1 - s.2.1).toNat) ⟨i0,j0,rfl,rfl,h0⟩ (by rw [Dc]; have := h0.jb; simp only; omega) ?_
 rintro ⟨M,x,y⟩ n ⟨i,j,hx,hy,h⟩ hn
 simp only at hx hy h
 subst hx hy
 unfold Gb
 simp only
 refine Ok.while (fun q => ∃ k : Nat,q = (k : Int) ∧ i ≤ k ∧ PartI L a b M k j) (fun q => ((j : Int) + 1 - q).toNat) ⟨i,rfl,Nat.le_refl _,h⟩ (by rw [Dc]; have := h.jb; omega) ?_
 rintro q n1 ⟨k,rfl,hik,hk⟩ hn1
 have hM := hk.rp.len
 have hjb := hk.jb
 have hka := hk.i1
 have hja := hk.ja
 have ek : Int.toNat (k : Int) = k := by omega
 have second : ((k : Int) ≤ (j : Int) → ¬ M.getD k 0 < M.getD a 0) → Ok (whileO (Gd (a : Int) (M,(i : Int),(j : Int)) n (k : Int)) Dy (j : Int)) (PartQ L a b) := by
  intro hstop
  refine Ok.while (fun q => ∃ m : Nat,q = (m : Int) ∧ PartI L a b M k m ∧ m ≤ j) (fun q => q.toNat) ⟨j,rfl,hk,Nat.le_refl _⟩ (by rw [Dc]; omega) ?_
  rintro q n2 ⟨m,rfl,hm,hmj⟩ hn2
  have hmb := hm.jb
  have hma := hm.ja
  have hkm := hm.ij
  have em : Int.toNat (m : Int) = m := by omega
  unfold Gd Ee
  simp only
  rw [ea,em,ek]
  refine Ok.ite (fun c => ?_) fun c => ?_
  ·have c := of_decide_eq_true c
   refine Ok.guard (by omega) (Ok.guard (by omega) (Ok.guard (by omega) (Ok.guard (by omega) ?_)))
   refine Ok.step (Kh _ _) ?_
   refine Ok.ite (fun c2 => ?_) fun c2 => ?_
   ·have c2 : ¬ M.getD m 0 < M.getD a 0 := by simpa using c2
    have hw : w64 ((m : Int) - 1) = ((m - 1 : Nat) : Int) := by
     rw [Ax (by omega) (by omega)]
     omega
    rw [hw]
    exact hn2 _ ⟨m - 1,rfl,hm.decJ (by omega) c2,by omega⟩ (by omega)
   ·have c2 : M.getD m 0 < M.getD a 0 := by
     rw [Bool.not_eq_false'] at c2
     exact of_decide_eq_true c2
    refine Ok.ite (fun c3 => by have := of_decide_eq_true c3; omega) fun _ => ?_
    refine Ok.guard (by omega) (Ok.guard (by omega) (Ok.guard (by omega) (Ok.guard (by omega) (Ok.guard (by omega) (Ok.guard (by omega) (Ok.guard (by omega) (Ok.guard (by omega) ?_)))))))
    have w1 : w64 ((k : Int) + 1) = ((k + 1 : Nat) : Int) := by
     rw [Ax (by omega) (by omega)]
     omega
    have w2 : w64 ((m : Int) - 1) = ((m - 1 : Nat) : Int) := by
     rw [Ax (by omega) (by omega)]
     omega
    rw [w1,w2]
    have hsw := hm.swap hb (by omega) (hstop (by omega)) c2
    exact hn (Dl M k m,_,_) ⟨k + 1,m - 1,rfl,rfl,hsw⟩ (by simp only; omega)
  ·have c := of_decide_eq_false c
   simp only [Bool.false_eq_true,if_false]
   refine Ok.ite (fun _ => ?_) fun c3 => by have := of_decide_eq_false c3; omega
   refine Ok.guard (by omega) (Ok.guard (by omega) (Ok.guard (by omega) (Ok.guard (by omega) (Ok.guard (by omega) (Ok.guard (by omega) (Ok.guard (by omega) (Ok.guard (by omega) (Ok.ret ?_))))))))
   exact hm.fin hb (by omega) false
 unfold Ic Em
 simp only
 rw [ea,ek]
 refine Ok.ite (fun c => ?_) fun c => ?_
 ·have c := of_decide_eq_true c
  refine Ok.guard (by omega) (Ok.guard (by omega) (Ok.guard (by omega) (Ok.guard (by omega) ?_)))
  refine Ok.step (Kh _ _) ?_
  refine Ok.ite (fun c2 => ?_) fun c2 => second fun _ => of_decide_eq_false c2
  have c2 := of_decide_eq_true c2
  have hw : w64 ((k : Int) + 1) = ((k + 1 : Nat) : Int) := by
   rw [Ax (by omega) (by omega)]
   omega
  rw [hw]
  exact hn1 _ ⟨k + 1,rfl,by omega,hk.incI (by omega) c2⟩ (by omega)
 ·have c := of_decide_eq_false c
  simp only [Bool.false_eq_true,if_false]
  exact second fun e => absurd e c
theorem Aid {L : List Int} {a b p : Nat} (hab : a + 1 < b) (hb : b ≤ L.length) (hl : L.length ≤ 1000000) (p1 : a ≤ p) (p2 : p < b) : Ok (Fj L (a : Int) (b : Int) (p : Int)) (PartQ L a b) := by
 have ea : Int.toNat (a : Int) = a := by omega
 have ep : Int.toNat (p : Int) = p := by omega
 have wa : w64 ((a : Int) + 1) = ((a + 1 : Nat) : Int) := by
  rw [Ax (by omega) (by omega)]
  omega
 have wb : w64 ((b : Int) - 1) = ((b - 1 : Nat) : Int) := by
  rw [Ax (by omega) (by omega)]
  omega
 have rp0 : RP a b L (Dl L a p) := RP.swap hb (Nat.le_refl _) (by omega) p1 p2
 generalize hS : Dl L a p = S at rp0
 have hS' : (L.set a (L.getD p 0)).set p (L.getD a 0) = S := hS
 have hlen := rp0.len
 have h0 : PartI L a b S (a + 1) (b - 1) := ⟨rp0,by omega,by omega,by omega,by omega,fun k k1 k2 => by omega,fun k k1 k2 => by omega⟩
 unfold Fj
 rw [ea,ep,wa]
 refine Ok.guard (by omega) (Ok.guard (by omega) (Ok.guard (by omega) (Ok.guard (by omega) (Ok.guard (by omega) (Ok.guard (by omega) (Ok.guard (by omega) (Ok.guard (by omega) ?_)))))))
 refine Ok.while (fun q => ∃ k : Nat,q = (k : Int) ∧ PartI L a b S k (b - 1)) (fun q => ((b : Int) - q).toNat) ⟨a + 1,rfl,h0⟩ (by rw [Dc]; omega) ?_
 rintro q n1 ⟨k,rfl,hk⟩ hn1
 have hka := hk.i1
 have ek : Int.toNat (k : Int) = k := by omega
 have second : (k ≤ b - 1 → ¬ S.getD k 0 < S.getD a 0) → Ok (whileO (Gc L (a : Int) (p : Int) (k : Int)) Dy ((b - 1 : Nat) : Int)) (PartQ L a b) := by
  intro hstop
  refine Ok.while (fun q => ∃ m : Nat,q = (m : Int) ∧ PartI L a b S k m ∧ m ≤ b - 1) (fun q => q.toNat) ⟨b - 1,rfl,hk,Nat.le_refl _⟩ (by rw [Dc]; omega) ?_
  rintro q n2 ⟨m,rfl,hm,hmj⟩ hn2
  have hmb := hm.jb
  have hma := hm.ja
  have hkm := hm.ij
  have em : Int.toNat (m : Int) = m := by omega
  unfold Gc Ei
  rw [ea,em,ek,ep,hS']
  refine Ok.ite (fun c => ?_) fun c => ?_
  ·have c := of_decide_eq_true c
   refine Ok.guard (by omega) (Ok.guard (by omega) (Ok.guard (by omega) (Ok.guard (by omega) ?_)))
   refine Ok.step (Kh _ _) ?_
   refine Ok.ite (fun c2 => ?_) fun c2 => ?_
   ·have c2 : ¬ S.getD m 0 < S.getD a 0 := by simpa using c2
    have hw : w64 ((m : Int) - 1) = ((m - 1 : Nat) : Int) := by
     rw [Ax (by omega) (by omega)]
     omega
    rw [hw]
    exact hn2 _ ⟨m - 1,rfl,hm.decJ (by omega) c2,by omega⟩ (by omega)
   ·have c2 : S.getD m 0 < S.getD a 0 := by
     rw [Bool.not_eq_false'] at c2
     exact of_decide_eq_true c2
    refine Ok.ite (fun c3 => by have := of_decide_eq_true c3; omega) fun _ => ?_
    refine Ok.guard (by omega) (Ok.guard (by omega) (Ok.guard (by omega) (Ok.guard (by omega) (Ok.guard (by omega) (Ok.guard (by omega) (Ok.guard (by omega) (Ok.guard (by omega) ?_)))))))
    have w1 : w64 ((k : Int) + 1) = ((k + 1 : Nat) : Int) := by
     rw [Ax (by omega) (by omega)]
     omega
    have w2 : w64 ((m : Int) - 1) = ((m - 1 : Nat) : Int) := by
     rw [Ax (by omega) (by omega)]
     omega
    rw [w1,w2]
    exact part_loop hb hl (hm.swap hb (by omega) (hstop (by omega)) c2)
  ·have c := of_decide_eq_false c
   simp only [Bool.false_eq_true,if_false]
   refine Ok.ite (fun _ => ?_) fun c3 => by have := of_decide_eq_false c3; omega
   refine Ok.guard (by omega) (Ok.guard (by omega) (Ok.guard (by omega) (Ok.guard (by omega) (Ok.guard (by omega) (Ok.guard (by omega) (Ok.guard (by omega) (Ok.guard (by omega) (Ok.ret ?_))))))))
   exact hm.fin hb (by omega) true
 unfold Iq Eg
 rw [wb,ea,ek,ep,hS']
 refine Ok.ite (fun c => ?_) fun c => ?_
 ·have c := of_decide_eq_true c
  refine Ok.guard (by omega) (Ok.guard (by omega) (Ok.guard (by omega) (Ok.guard (by omega) ?_)))
  refine Ok.step (Kh _ _) ?_
  refine Ok.ite (fun c2 => ?_) fun c2 => second fun _ => of_decide_eq_false c2
  have c2 := of_decide_eq_true c2
  have hw : w64 ((k : Int) + 1) = ((k + 1 : Nat) : Int) := by
   rw [Ax (by omega) (by omega)]
   omega
  rw [hw]
  exact hn1 _ ⟨k + 1,rfl,hk.incI (by omega) c2⟩ (by omega)
 ·have c := of_decide_eq_false c
  simp only [Bool.false_eq_true,if_false]
  exact second fun e => by omega
structure PartF (L : List Int) (a b : Nat) (v : Int) (M : List Int) (i j : Nat) : Prop where
 rp : RP a b L M
 pv : M.getD a 0 = v
 i1 : a + 1 ≤ i
 ij : i ≤ j + 1
 jb : j < b
 ja : a ≤ j
 lo : ∀ k,a + 1 ≤ k → k < i → ¬ v < M.getD k 0
 hi : ∀ k,j < k → k < b → v < M.getD k 0
theorem AeC {L : List Int} {a b p : Nat} (hab : a + 1 < b) (hb : b ≤ L.length) (hl : L.length ≤ 1000000) (p1 : a ≤ p) (p2 : p < b) :
  Ok (Dp L (a : Int) (b : Int) (p : Int)) (fun r => ∃ m : Nat,r.1 = (m : Int) ∧ a + 1 ≤ m ∧ m ≤ b ∧ RP a b L r.2 ∧ (∀ k,a ≤ k → k < m → r.2.getD k 0 ≤ L.getD p 0) ∧ (∀ k,m ≤ k → k < b → L.getD p 0 < r.2.getD k 0)) := by
 have ea : Int.toNat (a : Int) = a := by omega
 have ep : Int.toNat (p : Int) = p := by omega
 have wa : w64 ((a : Int) + 1) = ((a + 1 : Nat) : Int) := by
  rw [Ax (by omega) (by omega)]
  omega
 have wb : w64 ((b : Int) - 1) = ((b - 1 : Nat) : Int) := by
  rw [Ax (by omega) (by omega)]
  omega
 have rp0 : RP a b L (Dl L a p) := RP.swap hb (Nat.le_refl _) (by omega) p1 p2
 have hpv : (Dl L a p).getD a 0 = L.getD p 0 := by
  rw [Ht (by omega) (by omega)]
  split
  ·rename_i e
   rw [e]
  ·rw [if_pos rfl]
 unfold Dp
 rw [ea,ep,wa,wb]
 refine Ok.guard (by omega) (Ok.guard (by omega) (Ok.guard (by omega) (Ok.guard (by omega) (Ok.guard (by omega) (Ok.guard (by omega) (Ok.guard (by omega) (Ok.guard (by omega) ?_)))))))
 refine Ok.while (fun s => ∃ i j : Nat,s.2.2 = (i : Int) ∧ s.2.1 = (j : Int) ∧ PartF L a b (L.getD p 0) s.1 i j) (fun s => (s.2.1 + 1 - s.2.2).toNat) ⟨a + 1,b - 1,rfl,rfl,⟨rp0,hpv,by omega,by omega,by omega,by omega,fun k k1 k2 => by omega,fun k k1 k2 => by omega⟩⟩ (by rw [Dc]; simp only; omega) ?_
 rintro ⟨M,y,x⟩ n ⟨i,j,hx,hy,h⟩ hn
 simp only at hx hy h
 subst hx hy
 unfold Gv
 simp only
 refine Ok.while (fun q => ∃ k : Nat,q = (k : Int) ∧ i ≤ k ∧ PartF L a b (L.getD p 0) M k j) (fun q => ((j : Int) + 1 - q).toNat) ⟨i,rfl,Nat.le_refl _,h⟩ (by rw [Dc]; have := h.jb; omega) ?_
 rintro q n1 ⟨k,rfl,hik,hk⟩ hn1
 have hM := hk.rp.len
 have hjb := hk.jb
 have hka := hk.i1
 have hja := hk.ja
 have hpv := hk.pv
 have ek : Int.toNat (k : Int) = k := by omega
 have second : ((k : Int) ≤ (j : Int) → L.getD p 0 < M.getD k 0) → Ok (whileO (Et (a : Int) (M,(j : Int),(i : Int)) n (k : Int)) Dy (j : Int)) (fun r => ∃ m : Nat,r.1 = (m : Int) ∧ a + 1 ≤ m ∧ m ≤ b ∧ RP a b L r.2 ∧ (∀ k,a ≤ k → k < m → r.2.getD k 0 ≤ L.getD p 0) ∧ (∀ k,m ≤ k → k < b → L.getD p 0 < r.2.getD k 0)) := by
  intro hstop
  refine Ok.while (fun q => ∃ m : Nat,q = (m : Int) ∧ PartF L a b (L.getD p 0) M k m ∧ m ≤ j) (fun q => q.toNat) ⟨j,rfl,hk,Nat.le_refl _⟩ (by rw [Dc]; omega) ?_
  rintro q n2 ⟨m,rfl,hm,hmj⟩ hn2
  have hmb := hm.jb
  have hma := hm.ja
  have hkm := hm.ij
  have em : Int.toNat (m : Int) = m := by omega
  unfold Et Db
  simp only
  rw [ea,em,ek]
  refine Ok.ite (fun c => ?_) fun c => ?_
  ·have c := of_decide_eq_true c
   refine Ok.guard (by omega) (Ok.guard (by omega) (Ok.guard (by omega) (Ok.guard (by omega) ?_)))
   refine Ok.step (Kh _ _) ?_
   refine Ok.ite (fun c2 => ?_) fun c2 => ?_
   ·have c2 := of_decide_eq_true c2
    have hw : w64 ((m : Int) - 1) = ((m - 1 : Nat) : Int) := by
     rw [Ax (by omega) (by omega)]
     omega
    rw [hw]
    refine hn2 _ ⟨m - 1,rfl,⟨hm.rp,hm.pv,hm.i1,by omega,by omega,by omega,hm.lo,fun r r1 r2 => ?_⟩,by omega⟩ (by omega)
    by_cases e : r = m
    ·subst e
     omega
    ·exact hm.hi r (by omega) r2
   ·have c2 := of_decide_eq_false c2
    refine Ok.ite (fun c3 => by have := of_decide_eq_true c3; omega) fun _ => ?_
    refine Ok.guard (by omega) (Ok.guard (by omega) (Ok.guard (by omega) (Ok.guard (by omega) (Ok.guard (by omega) (Ok.guard (by omega) (Ok.guard (by omega) (Ok.guard (by omega) ?_)))))))
    have w1 : w64 ((k : Int) + 1) = ((k + 1 : Nat) : Int) := by
     rw [Ax (by omega) (by omega)]
     omega
    have w2 : w64 ((m : Int) - 1) = ((m - 1 : Nat) : Int) := by
     rw [Ax (by omega) (by omega)]
     omega
    rw [w1,w2]
    have hst := hstop (by omega)
    have hne : k ≠ m := fun e => by subst e; omega
    have hg : ∀ r,(Dl M k m).getD r 0 = if r = m then M.getD k 0 else if r = k then M.getD m 0 else M.getD r 0 := fun r => Ht (by omega) (by omega)
    refine hn (Dl M k m,_,_) ⟨k + 1,m - 1,rfl,rfl,⟨hm.rp.trans (RP.swap (by omega) (by omega) (by omega) (by omega) (by omega)),?_,by omega,by omega,by omega,by omega,?_,?_⟩⟩ (by simp only; omega)
    ·rw [hg,if_neg (by omega),if_neg (by omega)]
     exact hpv
    ·intro r r1 r2
     rw [hg]
     by_cases e : r = k
     ·rw [if_neg (by omega),if_pos e]
      omega
     ·rw [if_neg (by omega),if_neg e]
      exact hm.lo r r1 (by omega)
    ·intro r r1 r2
     rw [hg]
     by_cases e : r = m
     ·rw [if_pos e]
      exact hst
     ·rw [if_neg e,if_neg (by omega)]
      exact hm.hi r (by omega) r2
  ·have c := of_decide_eq_false c
   simp only [Bool.false_eq_true,if_false]
   refine Ok.ite (fun _ => Ok.ret ⟨k,rfl,by omega,by omega,hm.rp,fun r r1 r2 => ?_,fun r r1 r2 => hm.hi r (by omega) r2⟩) fun c3 => by have := of_decide_eq_false c3; omega
   by_cases e : r = a
   ·subst e
    simp only
    omega
   ·have := hm.lo r (by omega) r2
    simp only
    omega
 unfold Gw Dd
 simp only
 rw [ea,ek]
 refine Ok.ite (fun c => ?_) fun c => ?_
 ·have c := of_decide_eq_true c
  refine Ok.guard (by omega) (Ok.guard (by omega) (Ok.guard (by omega) (Ok.guard (by omega) ?_)))
  refine Ok.step (Kh _ _) ?_
  refine Ok.ite (fun c2 => ?_) fun c2 => ?_
  ·have c2 : ¬ M.getD a 0 < M.getD k 0 := by simpa using c2
   have hw : w64 ((k : Int) + 1) = ((k + 1 : Nat) : Int) := by
    rw [Ax (by omega) (by omega)]
    omega
   rw [hw]
   refine hn1 _ ⟨k + 1,rfl,by omega,⟨hk.rp,hk.pv,by omega,by omega,hk.jb,hk.ja,fun r r1 r2 => ?_,hk.hi⟩⟩ (by omega)
   by_cases e : r = k
   ·subst e
    omega
   ·exact hk.lo r r1 (by omega)
  ·have c2 : M.getD a 0 < M.getD k 0 := by
    rw [Bool.not_eq_false'] at c2
    exact of_decide_eq_true c2
   exact second fun _ => by omega
 ·have c := of_decide_eq_false c
  simp only [Bool.false_eq_true,if_false]
  exact second fun e => absurd e c
end Go.Dm

/- Plain theory, part 28: the library's heap sort. -/
namespace Go.Dm
def Aef (a lo hi : Nat) (M : List Int) : Prop := ∀ c,1 ≤ c → c < hi → lo ≤ (c - 1) / 2 → M.getD (a + c) 0 ≤ M.getD (a + (c - 1) / 2) 0
theorem AeR {L : List Int} {a b lo hi : Nat} (hb : b ≤ L.length) (hl : L.length ≤ 1000000) (hhi : a + hi ≤ b) (hlo : lo ≤ 1000000) (hpre : Aef a (lo + 1) hi L) :
  Ok (Ea L (lo : Int) (hi : Int) (a : Int)) (fun M => RP a (a + hi) L M ∧ Aef a lo hi M) := by
 unfold Ea
 refine Ok.while (fun s => ∃ r : Nat,s.2 = (r : Int) ∧ lo ≤ r ∧ r ≤ 1000000 ∧ RP a (a + hi) L s.1 ∧ (∀ c,1 ≤ c → c < hi → lo ≤ (c - 1) / 2 → (c - 1) / 2 ≠ r → s.1.getD (a + c) 0 ≤ s.1.getD (a + (c - 1) / 2) 0) ∧
  (1 ≤ r → lo ≤ (r - 1) / 2 → ∀ c,1 ≤ c → c < hi → (c - 1) / 2 = r → s.1.getD (a + c) 0 ≤ s.1.getD (a + (r - 1) / 2) 0)) (fun s => 1000001 - s.2.toNat) ?_ (by rw [Dc]; omega) ?_
 ·exact ⟨lo,rfl,Nat.le_refl _,hlo,.refl _ _ _,fun c c1 c2 c3 c4 => hpre c c1 c2 (by omega),fun h1 h2 => by omega⟩
 rintro ⟨M,x⟩ n ⟨r,hx,r1,r2,rp,hA,hB⟩ hn
 simp only at hx rp hA hB
 subst hx
 have hM := rp.len
 have w1 : w64 ((w64 (2 * (r : Int))) + 1) = ((2 * r + 1 : Nat) : Int) := by
  rw [Ax (n := 2 * (r : Int)) (by omega) (by omega),Ax (by omega) (by omega)]
  omega
 have w2 : w64 (((2 * r + 1 : Nat) : Int) + 1) = ((2 * r + 2 : Nat) : Int) := by
  rw [Ax (by omega) (by omega)]
  omega
 unfold Iz
 simp only
 rw [w1,w2]
 refine Ok.ite (fun c => ?_) fun c => ?_
 ·have c := of_decide_eq_true c
  refine Ok.ret ⟨rp,fun d d1 d2 d3 => hA d d1 d2 d3 (by omega)⟩
 have c := of_decide_eq_false c
 have hr : 2 * r + 1 < hi := by omega
 have hJ4 : ∀ m : Nat,m < hi → (m = 2 * r + 1 ∨ m = 2 * r + 2) → (∀ d,1 ≤ d → d < hi → (d - 1) / 2 = r → M.getD (a + d) 0 ≤ M.getD (a + m) 0) → Ok (Dk (a : Int) (M,(r : Int)) n (m : Int)) (fun M => RP a (a + hi) L M ∧ Aef a lo hi M) := by
  intro m hm hmc hmax
  have e1 : w64 ((a : Int) + (r : Int)) = ((a + r : Nat) : Int) := by
   rw [Ax (by omega) (by omega)]
   omega
  have e2 : w64 ((a : Int) + (m : Int)) = ((a + m : Nat) : Int) := by
   rw [Ax (by omega) (by omega)]
   omega
  have e3 : Int.toNat ((a + r : Nat) : Int) = a + r := by omega
  have e4 : Int.toNat ((a + m : Nat) : Int) = a + m := by omega
  unfold Dk
  simp only
  rw [e1,e2,e3,e4]
  refine Ok.guard (by omega) (Ok.guard (by omega) (Ok.guard (by omega) (Ok.guard (by omega) ?_)))
  refine Ok.step (Kh _ _) ?_
  refine Ok.ite (fun c2 => ?_) fun c2 => ?_
  ·have c2 : ¬ M.getD (a + r) 0 < M.getD (a + m) 0 := by simpa using c2
   refine Ok.ret ⟨rp,fun d d1 d2 d3 => ?_⟩
   by_cases e : (d - 1) / 2 = r
   ·rw [e]
    have := hmax d d1 d2 e
    omega
   ·exact hA d d1 d2 d3 e
  ·have c2 : M.getD (a + r) 0 < M.getD (a + m) 0 := by
    rw [Bool.not_eq_false'] at c2
    exact of_decide_eq_true c2
   refine Ok.guard (by omega) (Ok.guard (by omega) (Ok.guard (by omega) (Ok.guard (by omega) (Ok.guard (by omega) (Ok.guard (by omega) (Ok.guard (by omega) (Ok.guard (by omega) ?_)))))))
   have hg : ∀ q,(Dl M (a + r) (a + m)).getD q 0 = if q = a + m then M.getD (a + r) 0 else if q = a + r then M.getD (a + m) 0 else M.getD q 0 := fun q => Ht (by omega) (by omega)
   refine hn (Dl M (a + r) (a + m),(m : Int)) ⟨m,rfl,by omega,by omega,rp.trans (RP.swap (by omega) (by omega) (by omega) (by omega) (by omega)),?_,?_⟩ (by simp only; omega)
   ·intro d d1 d2 d3 d4
    simp only
    rw [hg,hg]
    by_cases ep : (d - 1) / 2 = r
    ·rw [if_neg (c := a + (d - 1) / 2 = a + m) (by omega),if_pos (c := a + (d - 1) / 2 = a + r) (by omega)]
     by_cases ed : d = m
     ·rw [if_pos (by omega)]
      omega
     ·rw [if_neg (by omega),if_neg (by omega)]
      exact hmax d d1 d2 ep
    ·rw [if_neg (c := a + (d - 1) / 2 = a + m) (by omega),if_neg (c := a + (d - 1) / 2 = a + r) (by omega),if_neg (c := a + d = a + m) (by omega)]
     by_cases ed : d = r
     ·rw [if_pos (by omega)]
      have := hB (by omega) (by omega) m (by omega) hm (by omega)
      rw [ed]
      exact this
     ·rw [if_neg (by omega)]
      exact hA d d1 d2 d3 ep
   ·intro _ _ d d1 d2 d3
    simp only
    have hpm : (m - 1) / 2 = r := by omega
    rw [hpm,hg,hg,if_neg (by omega),if_neg (by omega),if_neg (by omega),if_pos rfl]
    have := hA d d1 d2 (by omega) (by omega)
    rw [d3] at this
    exact this
 unfold Fb
 simp only
 have e5 : w64 ((a : Int) + ((2 * r + 1 : Nat) : Int)) = ((a + (2 * r + 1) : Nat) : Int) := by
  rw [Ax (by omega) (by omega)]
  omega
 have e6 : w64 (((a + (2 * r + 1) : Nat) : Int) + 1) = ((a + (2 * r + 2) : Nat) : Int) := by
  rw [Ax (by omega) (by omega)]
  omega
 have e7 : Int.toNat ((a + (2 * r + 1) : Nat) : Int) = a + (2 * r + 1) := by omega
 have e8 : Int.toNat ((a + (2 * r + 2) : Nat) : Int) = a + (2 * r + 2) := by omega
 rw [w1,w2,e5,e6,e7,e8]
 refine Ok.ite (fun c2 => ?_) fun c2 => ?_
 ·have c2 := of_decide_eq_true c2
  refine Ok.guard (by omega) (Ok.guard (by omega) (Ok.guard (by omega) (Ok.guard (by omega) ?_)))
  refine Ok.step (Kh _ _) ?_
  refine Ok.ite (fun c3 => hJ4 (2 * r + 2) (by omega) (.inr rfl) fun d d1 d2 d3 => ?_) fun c3 => hJ4 (2 * r + 1) (by omega) (.inl rfl) fun d d1 d2 d3 => ?_
  ·have c3 := of_decide_eq_true c3
   by_cases e : d = 2 * r + 2
   ·rw [e]
    omega
   ·have : d = 2 * r + 1 := by omega
    rw [this]
    omega
  ·have c3 := of_decide_eq_false c3
   by_cases e : d = 2 * r + 1
   ·rw [e]
    omega
   ·have : d = 2 * r + 2 := by omega
    rw [this]
    omega
 ·have c2 := of_decide_eq_false c2
  simp only [Bool.false_eq_true,if_false]
  refine hJ4 (2 * r + 1) (by omega) (.inl rfl) fun d d1 d2 d3 => ?_
  have : d = 2 * r + 1 := by omega
  rw [this]
  omega
theorem heap_max {a hi : Nat} {M : List Int} (h : Aef a 0 hi M) : ∀ c,c < hi → M.getD (a + c) 0 ≤ M.getD a 0 := by
 intro c
 induction c using Nat.strongRecOn with
 | ind c ih =>
  intro hc
  by_cases e : c = 0
  ·subst e
   simp
  ·have h1 := h c (by omega) hc (by omega)
   have h2 := ih ((c - 1) / 2) (by omega) (by omega)
   omega
theorem AiS {L : List Int} {a b : Nat} (hab : a < b) (hb : b ≤ L.length) (hl : L.length ≤ 1000000) : Ok (Fq L (a : Int) (b : Int)) (fun M => RP a b L M ∧ Ft a b M) := by
 have wn : w64 ((b : Int) - (a : Int)) = ((b - a : Nat) : Int) := by
  rw [Ax (by omega) (by omega)]
  omega
 have wn1 : w64 (((b - a : Nat) : Int) - 1) = ((b - a - 1 : Nat) : Int) := by
  rw [Ax (by omega) (by omega)]
  omega
 have wh : w64 (Int.tdiv ((b - a - 1 : Nat) : Int) 2) = (((b - a - 1) / 2 : Nat) : Int) := by
  rw [Int.tdiv_eq_ediv_of_nonneg (by omega),Ax (by omega) (by omega)]
  omega
 have ea : Int.toNat (a : Int) = a := by omega
 unfold Fq
 rw [wn,wn1,wh]
 refine Ok.while (fun s => ∃ k : Nat,s.2 = (k : Int) - 1 ∧ k ≤ 1000000 ∧ RP a b L s.1 ∧ Aef a k (b - a) s.1) (fun s => (s.2 + 1).toNat) ?_ ?_ ?_
 ·exact ⟨(b - a - 1) / 2 + 1,by simp only; omega,by omega,.refl _ _ _,fun c c1 c2 c3 => by omega⟩
 ·rw [Dc]
  simp only
  omega
 rintro ⟨M,x⟩ n ⟨k,hx,hk,rp,hp⟩ hn
 simp only at hx rp hp
 subst hx
 have hM := rp.len
 unfold Je
 simp only
 refine Ok.ite (fun c => ?_) fun c => ?_
 ·have c := of_decide_eq_true c
  have ek : (k : Int) - 1 = ((k - 1 : Nat) : Int) := by omega
  rw [wn,ek]
  refine Ok.bind (AeR (b := b) (by omega) (by omega) (by omega) (by omega) (by rw [show k - 1 + 1 = k by omega]; exact hp)) fun N ⟨rn,hn2⟩ => ?_
  refine Ok.guard rn.len.symm (hn _ ⟨k - 1,?_,by omega,rp.trans (by rw [show a + (b - a) = b by omega] at rn; exact rn),hn2⟩ ?_)
  ·simp only
   rw [Ax (by omega) (by omega)]
  ·simp only
   rw [Ax (by omega) (by omega)]
   omega
 ·have c := of_decide_eq_false c
  have k0 : k = 0 := by omega
  subst k0
  rw [wn,wn1]
  clear hn
  refine Ok.while (fun s => ∃ k : Nat,s.2 = (k : Int) - 1 ∧ k ≤ b - a ∧ RP a b L s.1 ∧ Aef a 0 k s.1 ∧ (∀ p q,k ≤ p → p < q → q < b - a → s.1.getD (a + p) 0 ≤ s.1.getD (a + q) 0) ∧ (∀ p q,p < k → k ≤ q → q < b - a → s.1.getD (a + p) 0 ≤ s.1.getD (a + q) 0)) (fun s => (s.2 + 1).toNat) ?_ ?_ ?_
  ·exact ⟨b - a,by simp only; omega,Nat.le_refl _,rp,hp,fun p q h1 h2 h3 => by omega,fun p q h1 h2 h3 => by omega⟩
  ·rw [Dc]
   simp only
   omega
  clear rp hp hM hk c
  rintro ⟨M,x⟩ n ⟨k,hx,hk,rp,hp,h1,h2⟩ hn
  simp only at hx rp hp h1 h2
  subst hx
  have hM := rp.len
  unfold Jg
  simp only
  refine Ok.ite (fun c => ?_) fun c => ?_
  ·have c := of_decide_eq_true c
   obtain ⟨i,rfl⟩ : ∃ i,k = i + 1 := ⟨k - 1,by omega⟩
   have ek : ((i + 1 : Nat) : Int) - 1 = (i : Int) := by omega
   have e1 : w64 ((a : Int) + (i : Int)) = ((a + i : Nat) : Int) := by
    rw [Ax (by omega) (by omega)]
    omega
   have e2 : Int.toNat ((a + i : Nat) : Int) = a + i := by omega
   rw [ek,e1,e2,ea]
   refine Ok.guard (by omega) (Ok.guard (by omega) (Ok.guard (by omega) (Ok.guard (by omega) (Ok.guard (by omega) (Ok.guard (by omega) (Ok.guard (by omega) (Ok.guard (by omega) ?_)))))))
   have hS : (M.set a (M.getD (a + i) 0)).set (a + i) (M.getD a 0) = Dl M a (a + i) := rfl
   rw [hS]
   have hg : ∀ q,(Dl M a (a + i)).getD q 0 = if q = a + i then M.getD a 0 else if q = a then M.getD (a + i) 0 else M.getD q 0 := fun q => Ht (by omega) (by omega)
   have hmax := heap_max hp
   have hsl := AcQ M a (a + i)
   have rps : RP a b M (Dl M a (a + i)) := RP.swap (by omega) (by omega) (by omega) (by omega) (by omega)
   generalize Dl M a (a + i) = S at *
   refine Ok.bind (AeR (L := S) (a := a) (b := b) (lo := 0) (hi := i) (by omega) (by omega) (by omega) (by omega) (fun d d1 d2 d3 => ?_)) fun N ⟨rn,hn2⟩ => ?_
   ·rw [hg,hg,if_neg (by omega),if_neg (by omega),if_neg (by omega),if_neg (by omega)]
    exact hp d d1 (by omega) (by omega)
   refine Ok.guard rn.len.symm ?_
   have hwi : w64 ((i : Int) - 1) = (i : Int) - 1 := Ax (by omega) (by omega)
   rw [hwi]
   have hout : ∀ q,i ≤ q → N.getD (a + q) 0 = S.getD (a + q) 0 := fun q hq => rn.out (a + q) (by omega)
   have hSi : S.getD (a + i) 0 = M.getD a 0 := by rw [hg,if_pos rfl]
   have hSq : ∀ q,i < q → S.getD (a + q) 0 = M.getD (a + q) 0 := fun q hq => by rw [hg,if_neg (by omega),if_neg (by omega)]
   have hSp : ∀ v : Int,(∀ p,p < i + 1 → M.getD (a + p) 0 ≤ v) → ∀ p,p < i → N.getD (a + p) 0 ≤ v := by
    intro v hv p hp'
    refine rn.all (P := fun z => z ≤ v) (fun r r1 r2 => ?_) (a + p) (by omega) (by omega)
    rw [hg]
    split
    ·exact hv 0 (by omega)
    ·split
     ·exact hv i (by omega)
     ·have := hv (r - a) (by omega)
      rw [show a + (r - a) = r by omega] at this
      exact this
   refine hn _ ⟨i,rfl,by omega,rp.trans (rps.trans (rn.widen (Nat.le_refl _) (by omega))),hn2,?_,?_⟩ (by simp only; omega)
   ·intro p q p1 p2 p3
    simp only
    rw [hout p p1,hout q (by omega),hSq q (by omega)]
    by_cases e : p = i
    ·rw [e,hSi]
     have := h2 0 q (by omega) (by omega) p3
     simpa using this
    ·rw [hSq p (by omega)]
     exact h1 p q (by omega) p2 p3
   ·intro p q p1 p2 p3
    simp only
    rw [hout q p2]
    by_cases e : q = i
    ·rw [e,hSi]
     exact hSp _ (fun r hr => hmax r hr) p p1
    ·rw [hSq q (by omega)]
     exact hSp _ (fun r hr => h2 r q hr (by omega) p3) p p1
  ·have c := of_decide_eq_false c
   have k0 : k = 0 := by omega
   subst k0
   refine Ok.ret ⟨rp,fun p q p1 p2 p3 => ?_⟩
   have := h1 (p - a) (q - a) (by omega) (by omega) (by omega)
   rw [show a + (p - a) = p by omega,show a + (q - a) = q by omega] at this
   exact this
end Go.Dm

/- Plain theory, part 29: the library's sort sorts. -/
namespace Go.Dm
theorem kand_le {x y : Int} (h0 : 0 ≤ y) (h1 : y < 18446744073709551616) : 0 ≤ kand .u64 x y ∧ kand .u64 x y ≤ y := by
 unfold kand
 have hb : IntKind.u64.bits = 64 := rfl
 rw [hb]
 obtain ⟨n,rfl⟩ : ∃ n : Nat,y = (n : Int) := ⟨y.toNat,by omega⟩
 have hn : n < 2 ^ 64 := by omega
 have hle : (BitVec.ofInt 64 x &&& BitVec.ofInt 64 (n : Int)).toNat ≤ n := by
  rw [BitVec.toNat_and]
  refine Nat.le_trans Nat.and_le_right ?_
  rw [BitVec.ofInt_natCast,BitVec.toNat_ofNat]
  exact Nat.mod_le _ _
 have hw : IntKind.u64.wrap (((BitVec.ofInt 64 x &&& BitVec.ofInt 64 (n : Int)).toNat : Nat) : Int) = (((BitVec.ofInt 64 x &&& BitVec.ofInt 64 (n : Int)).toNat : Nat) : Int) := by
  generalize (BitVec.ofInt 64 x &&& BitVec.ofInt 64 (n : Int)).toNat = q at *
  have : IntKind.u64.wrap (q : Int) = (q : Int) % 18446744073709551616 := rfl
  rw [this]
  omega
 rw [hw]
 omega
theorem pow2_all : (List.range 1001).all (fun n => (Ge (n : Int)).any (fun k => n == 0 || (decide ((n : Int) < k) && decide (k ≤ 2 * (n : Int)) && (IntKind.u64.wrap (k - 1) == k - 1)))) = true := by decide +kernel
theorem pow2_ok {n : Nat} (h0 : 0 < n) (hn : n ≤ 1000) : Ok (Ge (n : Int)) (fun k => (n : Int) < k ∧ k ≤ 2 * (n : Int) ∧ IntKind.u64.wrap (k - 1) = k - 1) := by
 have := List.all_eq_true.mp pow2_all n (by rw [List.mem_range]; omega)
 cases hb : Ge (n : Int) with
 | none => rw [hb] at this; simp at this
 | some k =>
  rw [hb] at this
  simp only [Option.any_some,Bool.or_eq_true,beq_iff_eq,Bool.and_eq_true,decide_eq_true_eq] at this
  rcases this with h | ⟨⟨h1,h2⟩,h3⟩
  ·omega
  ·exact ⟨k,rfl,h1,h2,h3⟩
def InR (a b : Nat) (x : Int) : Prop := ∃ n : Nat,x = (n : Int) ∧ a ≤ n ∧ n < b
theorem Aec {L : List Int} {a b : Nat} (hb : b ≤ L.length) {x y : Int} (hx : InR a b x) (hy : InR a b y) (c : Int) : Ok (Dq L x y c) (fun r => InR a b r.1 ∧ InR a b r.2.1) := by
 obtain ⟨n,rfl,n1,n2⟩ := hx
 obtain ⟨m,rfl,m1,m2⟩ := hy
 unfold Dq
 refine Ok.guard (by omega) (Ok.guard (by omega) ?_)
 refine Ok.step (Kh _ _) ?_
 exact Ok.ite (fun _ => Ok.ret ⟨⟨m,rfl,m1,m2⟩,⟨n,rfl,n1,n2⟩⟩) fun _ => Ok.ret ⟨⟨n,rfl,n1,n2⟩,⟨m,rfl,m1,m2⟩⟩
theorem AgY {L : List Int} {a b : Nat} (hb : b ≤ L.length) {x y z : Int} (hx : InR a b x) (hy : InR a b y) (hz : InR a b z) (c : Int) : Ok (Ey L x y z c) (fun r => InR a b r.1) := by
 unfold Ey
 refine Ok.bind (Aec hb hx hy c) fun r ⟨r1,r2⟩ => ?_
 refine Ok.bind (Aec hb r2 hz _) fun s ⟨s1,s2⟩ => ?_
 refine Ok.bind (Aec hb r1 s1 _) fun t ⟨t1,t2⟩ => ?_
 exact Ok.ret t2
theorem Abb {L : List Int} {a b : Nat} (hb : b ≤ L.length) (hl : L.length ≤ 1000000) {n : Nat} (n1 : a + 1 ≤ n) (n2 : n + 1 < b) (c : Int) : Ok (Cj L (n : Int) c) (fun r => InR a b r.1) := by
 unfold Cj
 have e1 : w64 ((n : Int) - 1) = ((n - 1 : Nat) : Int) := by
  rw [Ax (by omega) (by omega)]
  omega
 have e2 : w64 ((n : Int) + 1) = ((n + 1 : Nat) : Int) := by
  rw [Ax (by omega) (by omega)]
  omega
 rw [e1,e2]
 refine Ok.bind (AgY (a := a) (b := b) hb ⟨n - 1,rfl,by omega,by omega⟩ ⟨n,rfl,by omega,by omega⟩ ⟨n + 1,rfl,by omega,by omega⟩ c) fun r hr => ?_
 exact Ok.ret hr
theorem AgI {L : List Int} {a b : Nat} (hab : a + 12 < b) (hb : b ≤ L.length) (hl : L.length ≤ 1000000) : Ok (Ep L (a : Int) (b : Int)) (fun r => InR a b r.1) := by
 unfold Ep
 have wn : w64 ((b : Int) - (a : Int)) = ((b - a : Nat) : Int) := by
  rw [Ax (by omega) (by omega)]
  omega
 have wq : w64 (Int.tdiv ((b - a : Nat) : Int) 4) = (((b - a) / 4 : Nat) : Int) := by
  rw [Int.tdiv_eq_ediv_of_nonneg (by omega),Ax (by omega) (by omega)]
  omega
 rw [wn,wq]
 have hq : 3 ≤ (b - a) / 4 := by omega
 have hq2 : 4 * ((b - a) / 4) ≤ b - a := by omega
 generalize (b - a) / 4 = q at *
 have m1 : w64 ((a : Int) + w64 ((q : Int) * 1)) = ((a + q : Nat) : Int) := by
  rw [Ax (n := (q : Int) * 1) (by omega) (by omega),Ax (by omega) (by omega)]
  omega
 have m2 : w64 ((a : Int) + w64 ((q : Int) * 2)) = ((a + 2 * q : Nat) : Int) := by
  rw [Ax (n := (q : Int) * 2) (by omega) (by omega),Ax (by omega) (by omega)]
  omega
 have m3 : w64 ((a : Int) + w64 ((q : Int) * 3)) = ((a + 3 * q : Nat) : Int) := by
  rw [Ax (n := (q : Int) * 3) (by omega) (by omega),Ax (by omega) (by omega)]
  omega
 rw [m1,m2,m3]
 have hJ1 : ∀ y : Int × Int,InR a b y.2 → Ok (Cy y) (fun r => InR a b r.1) := by
  intro y hy
  unfold Cy
  exact Ok.ite (fun _ => Ok.ret hy) fun _ => Ok.ite (fun _ => Ok.ret hy) fun _ => Ok.ret hy
 have hJ2 : ∀ y : Int × Int × Int × Int,InR a b y.2.1 → InR a b y.2.2.1 → InR a b y.2.2.2 → Ok (Cz L y) (fun r => InR a b r.1) := by
  intro y h1 h2 h3
  unfold Cz
  exact Ok.bind (AgY hb h1 h2 h3 _) fun r hr => hJ1 _ hr
 refine Ok.ite (fun _ => ?_) fun c => ?_
 ·refine Ok.ite (fun c => ?_) fun _ => ?_
  ·have := of_decide_eq_true c
   refine Ok.bind (Abb (a := a) (b := b) (n := a + q) hb hl (by omega) (by omega) 0) fun r hr => ?_
   refine Ok.bind (Abb (a := a) (b := b) (n := a + 2 * q) hb hl (by omega) (by omega) _) fun s hs => ?_
   refine Ok.bind (Abb (a := a) (b := b) (n := a + 3 * q) hb hl (by omega) (by omega) _) fun t ht => ?_
   exact hJ2 _ hr hs ht
  ·exact hJ2 _ ⟨_,rfl,by omega,by omega⟩ ⟨_,rfl,by omega,by omega⟩ ⟨_,rfl,by omega,by omega⟩
 ·exact hJ1 _ ⟨_,rfl,by omega,by omega⟩
theorem Ajc {L : List Int} {a b : Nat} (hab : a < b) (hb : b ≤ L.length) (hl : L.length ≤ 1000000) : Ok (Ed L (a : Int) (b : Int)) (fun M => RP a b L M) := by
 unfold Ed
 have wb : w64 ((b : Int) - 1) = ((b - 1 : Nat) : Int) := by
  rw [Ax (by omega) (by omega)]
  omega
 rw [wb]
 refine Ok.while (fun s => ∃ i j : Nat,s.2.1 = (i : Int) ∧ s.2.2 = (j : Int) ∧ a ≤ i ∧ j < b ∧ i ≤ j + 1 ∧ RP a b L s.1) (fun s => (s.2.2 + 1 - s.2.1).toNat) ⟨a,b - 1,rfl,rfl,Nat.le_refl _,by omega,by omega,.refl _ _ _⟩ (by rw [Dc]; simp only; omega) ?_
 rintro ⟨M,x,y⟩ n ⟨i,j,hx,hy,h1,h2,h3,rp⟩ hn
 simp only at hx hy rp
 subst hx hy
 have hM := rp.len
 have ei : Int.toNat (i : Int) = i := by omega
 have ej : Int.toNat (j : Int) = j := by omega
 unfold Hp
 simp only
 rw [ei,ej]
 refine Ok.ite (fun c => ?_) fun _ => Ok.ret rp
 have c := of_decide_eq_true c
 have w1 : w64 ((i : Int) + 1) = ((i + 1 : Nat) : Int) := by
  rw [Ax (by omega) (by omega)]
  omega
 have w2 : w64 ((j : Int) - 1) = ((j - 1 : Nat) : Int) := by
  rw [Ax (by omega) (by omega)]
  omega
 rw [w1,w2]
 refine Ok.guard (by omega) (Ok.guard (by omega) (Ok.guard (by omega) (Ok.guard (by omega) (Ok.guard (by omega) (Ok.guard (by omega) (Ok.guard (by omega) (Ok.guard (by omega) ?_)))))))
 exact hn (Dl M i j,_,_) ⟨i + 1,j - 1,rfl,rfl,by omega,by omega,by omega,rp.trans (RP.swap (by omega) (by omega) (by omega) (by omega) (by omega))⟩ (by simp only; omega)
theorem break_ok {L : List Int} {a b : Nat} (hab : a + 12 < b) (hb : b ≤ L.length) (hl : L.length ≤ 1000) : Ok (Dv L (a : Int) (b : Int)) (fun M => RP a b L M) := by
 unfold Dv
 have wn : w64 ((b : Int) - (a : Int)) = ((b - a : Nat) : Int) := by
  rw [Ax (by omega) (by omega)]
  omega
 rw [wn]
 refine Ok.ite (fun _ => ?_) fun _ => Ok.ret (.refl _ _ _)
 refine Ok.bind (pow2_ok (n := b - a) (by omega) (by omega)) fun k ⟨k1,k2,k3⟩ => ?_
 have wq : w64 (Int.tdiv ((b - a : Nat) : Int) 4) = (((b - a) / 4 : Nat) : Int) := by
  rw [Int.tdiv_eq_ediv_of_nonneg (by omega),Ax (by omega) (by omega)]
  omega
 rw [wq]
 have hq : 3 ≤ (b - a) / 4 := by omega
 have hq2 : 4 * ((b - a) / 4) ≤ b - a := by omega
 generalize hqd : (b - a) / 4 = q at *
 have m2 : w64 ((a : Int) + w64 ((q : Int) * 2)) = ((a + 2 * q : Nat) : Int) := by
  rw [Ax (n := (q : Int) * 2) (by omega) (by omega),Ax (by omega) (by omega)]
  omega
 have m3 : w64 (((a + 2 * q : Nat) : Int) - 1) = ((a + 2 * q - 1 : Nat) : Int) := by
  rw [Ax (by omega) (by omega)]
  omega
 have m4 : w64 (((a + 2 * q : Nat) : Int) + 1) = ((a + 2 * q + 1 : Nat) : Int) := by
  rw [Ax (by omega) (by omega)]
  omega
 rw [m2,m3]
 refine Ok.while (fun s => ∃ i : Nat,s.2.2 = (i : Int) ∧ a ≤ i ∧ i ≤ a + 2 * q + 2 ∧ RP a b L s.1) (fun s => ((a + 2 * q + 2 : Nat) : Int).toNat - s.2.2.toNat) ⟨a + 2 * q - 1,rfl,by omega,by omega,.refl _ _ _⟩ (by rw [Dc]; simp only; omega) ?_
 rintro ⟨M,r,x⟩ n ⟨i,hx,i1,i2,rp⟩ hn
 simp only at hx rp
 subst hx
 have hM := rp.len
 have ei : Int.toNat (i : Int) = i := by omega
 unfold Hf
 simp only
 rw [wn,wq,m2,m4]
 refine Ok.ite (fun c => ?_) fun _ => Ok.ret rp
 have c := of_decide_eq_true c
 unfold Kt
 refine Ok.step rfl ?_
 simp only
 rw [k3]
 have hkl := kand_le (x := (kxor .u64 (kxor .u64 (kxor .u64 r (kshl .u64 r 13)) (kshr .u64 (kxor .u64 r (kshl .u64 r 13)) 7)) (kshl .u64 (kxor .u64 (kxor .u64 r (kshl .u64 r 13)) (kshr .u64 (kxor .u64 r (kshl .u64 r 13)) 7)) 17))) (y := k - 1) (by omega) (by omega)
 generalize kand .u64 (kxor .u64 (kxor .u64 (kxor .u64 r (kshl .u64 r 13)) (kshr .u64 (kxor .u64 r (kshl .u64 r 13)) 7)) (kshl .u64 (kxor .u64 (kxor .u64 r (kshl .u64 r 13)) (kshr .u64 (kxor .u64 r (kshl .u64 r 13)) 7)) 17)) (k - 1) = z at *
 generalize kxor .u64 (kxor .u64 (kxor .u64 r (kshl .u64 r 13)) (kshr .u64 (kxor .u64 r (kshl .u64 r 13)) 7)) (kshl .u64 (kxor .u64 (kxor .u64 r (kshl .u64 r 13)) (kshr .u64 (kxor .u64 r (kshl .u64 r 13)) 7)) 17) = r'
 have hJ : ∀ o : Nat,o < b - a → Ok (Cq (a : Int) (M,r,(i : Int)) n (r',r') (o : Int)) (fun M => RP a b L M) := by
  intro o ho
  unfold Cq
  simp only
  have e1 : w64 ((a : Int) + (o : Int)) = ((a + o : Nat) : Int) := by
   rw [Ax (by omega) (by omega)]
   omega
  have e2 : Int.toNat ((a + o : Nat) : Int) = a + o := by omega
  have e3 : w64 ((i : Int) + 1) = ((i + 1 : Nat) : Int) := by
   rw [Ax (by omega) (by omega)]
   omega
  rw [e1,e2,e3,ei]
  refine Ok.guard (by omega) (Ok.guard (by omega) (Ok.guard (by omega) (Ok.guard (by omega) (Ok.guard (by omega) (Ok.guard (by omega) (Ok.guard (by omega) (Ok.guard (by omega) ?_)))))))
  exact hn (Dl M i (a + o),_,_) ⟨i + 1,rfl,by omega,by omega,rp.trans (RP.swap (by omega) (by omega) (by omega) (by omega) (by omega))⟩ (by simp only; omega)
 have hz : w64 z = z := Ax (by omega) (by omega)
 rw [hz]
 refine Ok.ite (fun c2 => ?_) fun c2 => ?_
 ·have c2 := of_decide_eq_true c2
  have e : w64 (z - ((b - a : Nat) : Int)) = ((z - ((b - a : Nat) : Int)).toNat : Int) := by
   rw [Ax (by omega) (by omega)]
   omega
  rw [e]
  exact hJ _ (by omega)
 ·have c2 := of_decide_eq_false c2
  have e : z = ((z.toNat : Nat) : Int) := by omega
  rw [e]
  exact hJ _ (by omega)
def lowR (a b : Nat) (L : List Int) : Prop := 0 < a → ∀ k,a ≤ k → k < b → L.getD (a - 1) 0 ≤ L.getD k 0
theorem lowR.rp {a b : Nat} {L M : List Int} (h : lowR a b L) (r : RP a b L M) : lowR a b M := by
 intro h0 k k1 k2
 rw [r.out (a - 1) (by omega)]
 exact r.all (P := fun z => L.getD (a - 1) 0 ≤ z) (fun i i1 i2 => h h0 i i1 i2) k k1 k2
theorem Ajy {L : List Int} {a b : Nat} (hab : a + 12 < b) (hb : b ≤ L.length) (hl : L.length ≤ 1000000) (hlow0 : lowR a b L) :
  Ok (Ct L (a : Int) (b : Int)) (fun r => RP a b L r.2 ∧ (r.1 = true → Ft a b r.2)) := by
 unfold Ct
 have e1 : w64 ((a : Int) + 1) = ((a + 1 : Nat) : Int) := by
  rw [Ax (by omega) (by omega)]
  omega
 rw [e1]
 refine Ok.for (fun _ s => ∃ i : Nat,s.2 = (i : Int) ∧ a + 1 ≤ i ∧ i ≤ b ∧ RP a b L s.1 ∧ Ft a i s.1) ⟨a + 1,rfl,Nat.le_refl _,by omega,.refl _ _ _,fun p q h1 h2 h3 => by omega⟩ ?_ ?_
 ·rintro j ⟨M,x⟩ n hj ⟨i0,hx,i01,i02,rp,hs0⟩ hn
  simp only at hx rp hs0
  subst hx
  have hM := rp.len
  unfold Fm
  simp only
  refine Ok.while (fun q => ∃ i : Nat,q = (i : Int) ∧ a + 1 ≤ i ∧ i ≤ b ∧ Ft a i M) (fun q => b - q.toNat) ⟨i0,rfl,i01,i02,hs0⟩ (by rw [Dc]; omega) ?_
  clear hs0
  rintro q nn ⟨i,rfl,h1,h2,hs⟩ hnn
  have hw : w64 ((i : Int) - 1) = ((i - 1 : Nat) : Int) := by
   rw [Ax (by omega) (by omega)]
   omega
  have ei : Int.toNat (i : Int) = i := by omega
  have ei1 : Int.toNat ((i - 1 : Nat) : Int) = i - 1 := by omega
  have stop : (i = b ∨ (i < b ∧ M.getD i 0 < M.getD (i - 1) 0)) → Ok (Bw (a : Int) (b : Int) (M,(i0 : Int)) n (i : Int) nn false) (fun r => RP a b L r.2 ∧ (r.1 = true → Ft a b r.2)) := by
   intro hstop
   unfold Bw
   simp only [Bool.false_eq_true,if_false]
   refine Ok.ite (fun c => ?_) fun c => ?_
   ·have c : (i : Int) = (b : Int) := by simpa using c
    have : i = b := by omega
    subst this
    exact Ok.ret ⟨rp,fun _ => hs⟩
   have c : ¬ (i : Int) = (b : Int) := by simpa using c
   have hib : i < b := by omega
   have hlt : M.getD i 0 < M.getD (i - 1) 0 := by
    rcases hstop with h | h
    ·omega
    ·exact h.2
   refine Ok.ite (fun _ => Ok.ret ⟨rp,fun e => by simp at e⟩) fun _ => ?_
   rw [hw,ei,ei1]
   refine Ok.guard (by omega) (Ok.guard (by omega) (Ok.guard (by omega) (Ok.guard (by omega) (Ok.guard (by omega) (Ok.guard (by omega) (Ok.guard (by omega) (Ok.guard (by omega) ?_)))))))
   have hS : (M.set i (M.getD (i - 1) 0)).set (i - 1) (M.getD i 0) = Dl M i (i - 1) := rfl
   rw [hS]
   have hg : ∀ r,(Dl M i (i - 1)).getD r 0 = if r = i - 1 then M.getD i 0 else if r = i then M.getD (i - 1) 0 else M.getD r 0 := fun r => Ht (by omega) (by omega)
   have rps : RP a b M (Dl M i (i - 1)) := RP.swap (by omega) (by omega) (by omega) (by omega) (by omega)
   generalize Dl M i (i - 1) = S at *
   have hJ15 : ∀ N : List Int,RP a b L N → Ft a i N → Ok (Br (b : Int) n (i : Int) N) (fun r => RP a b L r.2 ∧ (r.1 = true → Ft a b r.2)) := by
    intro N rN hsN
    have hN := rN.len
    have done : ∀ K : List Int,RP a b L K → Ft a i K → Ok (Bv n (K,(i : Int))) (fun r => RP a b L r.2 ∧ (r.1 = true → Ft a b r.2)) := by
     intro K rK hK
     unfold Bv
     exact hn _ ⟨i,rfl,h1,h2,rK,hK⟩
    unfold Br
    refine Ok.ite (fun _ => ?_) fun _ => done N rN hsN
    have w1 : w64 ((i : Int) + 1) = ((i + 1 : Nat) : Int) := by
     rw [Ax (by omega) (by omega)]
     omega
    rw [w1]
    refine Ok.guard (by omega) ?_
    rw [show Int.toNat ((b : Int) - ((i + 1 : Nat) : Int)) = b - (i + 1) by omega]
    refine Ok.for (fun _ K => RP a b L K ∧ Ft a i K) ⟨rN,hsN⟩ ?_ fun K ⟨rK,hK⟩ => done K rK hK
    intro t K nk ht ⟨rK,hK⟩ hnk
    have hKl := rK.len
    have et : ((i + 1 : Nat) : Int) + (t : Int) = ((i + 1 + t : Nat) : Int) := by omega
    have et1 : w64 (((i + 1 + t : Nat) : Int) - 1) = ((i + t : Nat) : Int) := by
     rw [Ax (by omega) (by omega)]
     omega
    have et2 : Int.toNat ((i + 1 + t : Nat) : Int) = i + 1 + t := by omega
    have et3 : Int.toNat ((i + t : Nat) : Int) = i + t := by omega
    rw [et]
    unfold Fh
    rw [et1,et2,et3]
    refine Ok.guard (by omega) (Ok.guard (by omega) (Ok.guard (by omega) (Ok.guard (by omega) ?_)))
    refine Ok.step (Kh _ _) ?_
    refine Ok.ite (fun _ => done K rK hK) fun _ => ?_
    refine Ok.guard (by omega) (Ok.guard (by omega) (Ok.guard (by omega) (Ok.guard (by omega) (Ok.guard (by omega) (Ok.guard (by omega) (Ok.guard (by omega) (Ok.guard (by omega) ?_)))))))
    refine hnk (Dl K (i + 1 + t) (i + t)) ⟨rK.trans (RP.swap (by omega) (by omega) (by omega) (by omega) (by omega)),fun p q p1 p2 p3 => ?_⟩
    rw [Ht (by omega) (by omega),Ht (by omega) (by omega),if_neg (by omega),if_neg (by omega),if_neg (by omega),if_neg (by omega)]
    exact hK p q p1 p2 p3
   have rS := rp.trans rps
   have hSl := rS.len
   refine Ok.ite (fun _ => ?_) fun c5 => ?_
   ·refine Ok.while (fun q => ∃ k : Nat,q.2 = (k : Int) ∧ a ≤ k ∧ k + 1 ≤ i ∧ RP a b L q.1 ∧ (∀ p r,a ≤ p → p < r → r < i → p ≠ k → r ≠ k → q.1.getD p 0 ≤ q.1.getD r 0) ∧ (∀ r,k < r → r < i → q.1.getD k 0 ≤ q.1.getD r 0)) (fun q => q.2.toNat) ?_ (by rw [Dc]; simp only; omega) ?_
    ·refine ⟨i - 1,rfl,by omega,by omega,rS,fun p r p1 p2 p3 p4 p5 => ?_,fun r r1 r2 => by omega⟩
     simp only
     rw [hg,hg,if_neg p4,if_neg p5,if_neg (by omega),if_neg (by omega)]
     exact hs p r p1 p2 p3
    ·rintro ⟨K,y⟩ n3 ⟨k,hy,k1,k2,rK,hA,hB⟩ hn3
     simp only at hy rK hA hB
     subst hy
     have hKl := rK.len
     have fin : (k = a ∨ ¬ K.getD k 0 < K.getD (k - 1) 0) → Ok (Br (b : Int) n (i : Int) K) (fun r => RP a b L r.2 ∧ (r.1 = true → Ft a b r.2)) := by
      intro hstop
      refine hJ15 K rK fun p q p1 p2 p3 => ?_
      by_cases hp : p = k
      ·subst hp
       exact hB q p2 p3
      by_cases hq : q = k
      ·subst hq
       rcases hstop with h | h
       ·omega
       ·by_cases hp2 : p = q - 1
        ·subst hp2
         omega
        ·have := hA p (q - 1) p1 (by omega) (by omega) hp (by omega)
         omega
      exact hA p q p1 p2 p3 hp hq
     have ek : Int.toNat (k : Int) = k := by omega
     unfold Fg
     simp only
     refine Ok.ite (fun c6 => ?_) fun c6 => ?_
     ·have c6 := of_decide_eq_true c6
      have wk : w64 ((k : Int) - 1) = ((k - 1 : Nat) : Int) := by
       rw [Ax (by omega) (by omega)]
       omega
      have ek1 : Int.toNat ((k - 1 : Nat) : Int) = k - 1 := by omega
      rw [wk,ek,ek1]
      refine Ok.guard (by omega) (Ok.guard (by omega) (Ok.guard (by omega) (Ok.guard (by omega) ?_)))
      refine Ok.step (Kh _ _) ?_
      refine Ok.ite (fun c7 => fin (.inr (by simpa using c7))) fun c7 => ?_
      have c7 : K.getD k 0 < K.getD (k - 1) 0 := by
       rw [Bool.not_eq_false'] at c7
       exact of_decide_eq_true c7
      have hka : a < k := by
       by_cases e : k = a
       ·exfalso
        subst e
        have h3 := hlow0.rp rK (by omega) k (Nat.le_refl _) (by omega)
        omega
       ·omega
      refine Ok.guard (by omega) (Ok.guard (by omega) (Ok.guard (by omega) (Ok.guard (by omega) (Ok.guard (by omega) (Ok.guard (by omega) (Ok.guard (by omega) (Ok.guard (by omega) ?_)))))))
      have hgk : ∀ r,(Dl K k (k - 1)).getD r 0 = if r = k - 1 then K.getD k 0 else if r = k then K.getD (k - 1) 0 else K.getD r 0 := fun r => Ht (by omega) (by omega)
      refine hn3 (Dl K k (k - 1),((k - 1 : Nat) : Int)) ⟨k - 1,rfl,by omega,by omega,rK.trans (RP.swap (by omega) (by omega) (by omega) (by omega) (by omega)),?_,?_⟩ (by simp only; omega)
      ·intro p r p1 p2 p3 p4 p5
       simp only
       rw [hgk,hgk,if_neg p4,if_neg p5]
       by_cases hp : p = k
       ·rw [if_pos hp,if_neg (by omega)]
        exact hA (k - 1) r (by omega) (by omega) p3 (by omega) (by omega)
       ·rw [if_neg hp]
        by_cases hr : r = k
        ·rw [if_pos hr]
         exact hA p (k - 1) p1 (by omega) (by omega) hp (by omega)
        ·rw [if_neg hr]
         exact hA p r p1 p2 p3 hp hr
      ·intro r r1 r2
       simp only
       rw [hgk,hgk,if_pos rfl,if_neg (by omega)]
       by_cases hr : r = k
       ·rw [if_pos hr]
        omega
       ·rw [if_neg hr]
        exact hB r (by omega) r2
     ·have c6 := of_decide_eq_false c6
      exact fin (.inl (by omega))
   ·have c5 := of_decide_eq_false c5
    rw [Ax (by omega) (by omega)] at c5
    exact hJ15 S rS fun p q p1 p2 p3 => by omega
  unfold Ff
  simp only
  refine Ok.ite (fun c => ?_) fun c => ?_
  ·have c := of_decide_eq_true c
   rw [hw,ei,ei1]
   refine Ok.guard (by omega) (Ok.guard (by omega) (Ok.guard (by omega) (Ok.guard (by omega) ?_)))
   refine Ok.step (Kh _ _) ?_
   cases hlt : decide (M.getD i 0 < M.getD (i - 1) 0) with
   | true => exact stop (.inr ⟨by omega,of_decide_eq_true hlt⟩)
   | false =>
    have hlt := of_decide_eq_false hlt
    unfold Bw
    have w1 : w64 ((i : Int) + 1) = ((i + 1 : Nat) : Int) := by
     rw [Ax (by omega) (by omega)]
     omega
    simp only [Bool.not_false,if_true]
    rw [w1]
    refine hnn _ ⟨i + 1,rfl,by omega,by omega,fun p q p1 p2 p3 => ?_⟩ (by omega)
    by_cases e : q = i
    ·subst e
     by_cases e2 : p = q - 1
     ·subst e2
      omega
     ·have := hs p (q - 1) p1 (by omega) (by omega)
      omega
    ·exact hs p q p1 p2 (by omega)
  ·have c := of_decide_eq_false c
   exact stop (.inl (by omega))
 ·rintro ⟨M,x⟩ ⟨i,_,_,_,rp,_⟩
  exact Ok.ret ⟨rp,fun e => by simp at e⟩
def outR (a b c d : Nat) (L : List Int) : Prop := ∀ p q,a ≤ p → p < q → q < b → ¬ (c ≤ p ∧ q < d) → L.getD p 0 ≤ L.getD q 0
theorem outR.rp {a b c d : Nat} {L M : List Int} (h : outR a b c d L) (hc : a ≤ c) (hd : d ≤ b) (r : RP c d L M) : outR a b c d M := by
 intro p q p1 p2 p3 p4
 by_cases hp : c ≤ p ∧ p < d
 ·have hq : d ≤ q := by omega
  rw [r.out q (.inr hq)]
  exact r.all (P := fun z => z ≤ L.getD q 0) (fun i i1 i2 => h i q (by omega) (by omega) p3 (by omega)) p hp.1 hp.2
 ·rw [r.out p (by omega)]
  by_cases hq : c ≤ q ∧ q < d
  ·exact r.all (P := fun z => L.getD p 0 ≤ z) (fun i i1 i2 => h p i p1 (by omega) (by omega) (by omega)) q hq.1 hq.2
  ·rw [r.out q (by omega)]
   exact h p q p1 p2 p3 p4
theorem pdq_F : ∀ (fuel : Nat) {L : List Int} {a b : Nat} (lim : Int),b - a < fuel → a ≤ b → b ≤ L.length → L.length ≤ 1000 → lowR a b L → Ok (Ca fuel L (a : Int) (b : Int) lim) (fun M => RP a b L M ∧ Ft a b M) := by
 intro fuel
 induction fuel with
 | zero => intro L a b lim h; omega
 | succ fuel ih =>
  intro L a b lim hf hab hb hl hlow
  rw [Ca]
  unfold Ho
  refine Ok.while (fun s => ∃ c d : Nat,s.2.1 = (c : Int) ∧ s.2.2.1 = (d : Int) ∧ a ≤ c ∧ c ≤ d ∧ d ≤ b ∧ RP a b L s.1 ∧ outR a b c d s.1) (fun s => (s.2.2.1 - s.2.1).toNat) ⟨a,b,rfl,rfl,Nat.le_refl _,hab,Nat.le_refl _,.refl _ _ _,fun p q h1 h2 h3 h4 => by omega⟩ (by rw [Dc]; simp only; omega) ?_
  rintro ⟨M,x,y,lm,wb,wp⟩ n ⟨c,d,hx,hy,c1,c2,c3,rp,ho⟩ hn
  simp only at hx hy rp ho
  subst hx hy
  have hM := rp.len
  have hlowc : lowR c d M := by
   intro h0 k k1 k2
   by_cases e : c = a
   ·subst e
    exact hlow.rp rp h0 k k1 (by omega)
   ·exact ho (c - 1) k (by omega) (by omega) (by omega) (by omega)
  have done : ∀ N,RP c d M N → Ft c d N → RP a b L N ∧ Ft a b N := by
   intro N rN hs
   refine ⟨rp.trans (rN.widen c1 c3),fun p q p1 p2 p3 => ?_⟩
   by_cases e : c ≤ p ∧ q < d
   ·exact hs p q e.1 p2 e.2
   ·exact ho.rp c1 c3 rN p q p1 p2 p3 e
  have wn : w64 ((d : Int) - (c : Int)) = ((d - c : Nat) : Int) := by
   rw [Ax (by omega) (by omega)]
   omega
  unfold Jt
  simp only
  rw [wn]
  refine Ok.ite (fun _ => ?_) fun cc => ?_
  ·refine Ok.bind (AhM c2 (by omega) (by omega)) fun N ⟨rN,hs⟩ => ?_
   exact Ok.guard rN.len.symm (Ok.ret (done N rN hs))
  have cc := of_decide_eq_false cc
  have hcd : c + 12 < d := by omega
  refine Ok.ite (fun _ => ?_) fun _ => ?_
  ·refine Ok.bind (AiS (by omega) (by omega) (by omega)) fun N ⟨rN,hs⟩ => ?_
   exact Ok.guard rN.len.symm (Ok.ret (done N rN hs))
  have hJ8 : ∀ (N : List Int) (l2 : Int),RP c d M N → Ok (Du (Ca fuel) (M,(c : Int),(d : Int),lm,wb,wp) n (N,l2)) (fun M => RP a b L M ∧ Ft a b M) := by
   intro N l2 rN
   have hN := rN.len
   have hJ9 : ∀ (K : List Int) (pv hint : Int),RP c d M K → InR c d pv → Ok (Ds (Ca fuel) (M,(c : Int),(d : Int),lm,wb,wp) n (N,l2) (K,pv,hint)) (fun M => RP a b L M ∧ Ft a b M) := by
    intro K pv hint rK hpv
    have hK := rK.len
    have hJ10 : ∀ U : List Int,RP c d M U → Ok (Di (Ca fuel) (M,(c : Int),(d : Int),lm,wb,wp) n (N,l2) (K,pv,hint) U) (fun M => RP a b L M ∧ Ft a b M) := by
     intro U rU
     have hU := rU.len
     obtain ⟨p,rfl,p1,p2⟩ := hpv
     have hlowU := hlowc.rp rU
     have hJ11 : ∀ e : Bool,(e = true → 0 < c ∧ ¬ U.getD (c - 1) 0 < U.getD p 0) → Ok (Dj (Ca fuel) (M,(c : Int),(d : Int),lm,wb,wp) n (N,l2) (K,(p : Int),hint) U e) (fun M => RP a b L M ∧ Ft a b M) := by
      intro e he
      unfold Dj
      simp only
      refine Ok.ite (fun ce => ?_) fun _ => ?_
      ·-- many equal ones
       obtain ⟨hc0,hle⟩ := he ce
       refine Ok.bind (AeC (by omega) (by omega) (by omega) p1 p2) fun r ⟨m,hr,m1,m2,rr,hlo,hhi⟩ => ?_
       refine Ok.guard rr.len.symm ?_
       have rMr := rU.trans rr
       rw [hr]
       refine hn _ ⟨m,d,rfl,rfl,by omega,by omega,c3,rp.trans (rMr.widen c1 c3),?_⟩ (by simp only; omega)
       have hor := ho.rp c1 c3 rMr
       have hlowr := hlowU.rp rr
       intro u v u1 u2 u3 u4
       simp only
       by_cases hin : c ≤ u ∧ v < d
       ·have hu : u < m := by omega
        have h1 := hlo u hin.1 hu
        by_cases hv : v < m
        ·have h2 := hlowr hc0 v (by omega) (by omega)
         rw [rr.out (c - 1) (by omega)] at h2
         omega
        ·have h2 := hhi v (by omega) hin.2
         omega
       ·exact hor u v u1 u2 u3 hin
      ·refine Ok.bind (Aid (by omega) (by omega) (by omega) p1 p2) fun r ⟨m,hr,m1,m2,rr,hlo,hhi⟩ => ?_
       have rMr := rU.trans rr
       have hrl := rMr.len
       refine Ok.guard rr.len.symm ?_
       have hor := ho.rp c1 c3 rMr
       have hlowr := hlowU.rp rr
       rw [hr]
       have w1 : w64 ((m : Int) + 1) = ((m + 1 : Nat) : Int) := by
        rw [Ax (by omega) (by omega)]
        omega
       refine Ok.ite (fun _ => ?_) fun _ => ?_
       ·-- the left part first
        refine Ok.bind (ih (L := r.2.2) (a := c) (b := m) l2 (by omega) m1 (by omega) (by omega) (fun h0 k k1 k2 => hlowr h0 k k1 (by omega))) fun S ⟨rS,hs⟩ => ?_
        refine Ok.guard rS.len.symm ?_
        rw [w1]
        refine hn _ ⟨m + 1,d,rfl,rfl,by omega,by omega,c3,rp.trans ((rMr.trans (rS.widen (Nat.le_refl _) (by omega))).widen c1 c3),?_⟩ (by simp only; omega)
        have horS := hor.rp c1 c3 (rS.widen (Nat.le_refl _) (by omega))
        intro u v u1 u2 u3 u4
        simp only
        by_cases hin : c ≤ u ∧ v < d
        ·have hum : u ≤ m := by omega
         have hSm : ∀ k,m ≤ k → S.getD k 0 = r.2.2.getD k 0 := fun k hk => rS.out k (.inr hk)
         have hSlo : ∀ k,c ≤ k → k < m → S.getD k 0 ≤ r.2.2.getD m 0 := fun k k1 k2 => rS.all (P := fun z => z ≤ r.2.2.getD m 0) (fun i i1 i2 => hlo i i1 i2) k k1 k2
         by_cases hv : v < m
         ·exact hs u v hin.1 u2 hv
         ·rw [hSm v (by omega)]
          have hvm : r.2.2.getD m 0 ≤ r.2.2.getD v 0 := by
           by_cases e2 : v = m
           ·rw [e2]
            exact Int.le_refl _
           ·exact hhi v (by omega) hin.2
          by_cases e3 : u = m
          ·rw [e3,hSm m (Nat.le_refl _)]
           exact hvm
          ·have := hSlo u hin.1 (by omega)
           omega
        ·exact horS u v u1 u2 u3 hin
       ·-- the right part first
        rw [w1]
        refine Ok.bind (ih (L := r.2.2) (a := m + 1) (b := d) l2 (by omega) (by omega) (by omega) (by omega) (fun h0 k k1 k2 => by
         have := hhi k (by omega) k2
         simpa using this)) fun S ⟨rS,hs⟩ => ?_
        refine Ok.guard rS.len.symm ?_
        refine hn _ ⟨c,m,rfl,rfl,c1,m1,by omega,rp.trans ((rMr.trans (rS.widen (by omega) (Nat.le_refl _))).widen c1 c3),?_⟩ (by simp only; omega)
        have horS := hor.rp c1 c3 (rS.widen (by omega) (Nat.le_refl _))
        intro u v u1 u2 u3 u4
        simp only
        by_cases hin : c ≤ u ∧ v < d
        ·have hSm : ∀ k,k ≤ m → S.getD k 0 = r.2.2.getD k 0 := fun k hk => rS.out k (.inl (by omega))
         have hShi : ∀ k,m < k → k < d → r.2.2.getD m 0 ≤ S.getD k 0 := fun k k1 k2 => rS.all (P := fun z => r.2.2.getD m 0 ≤ z) (fun i i1 i2 => hhi i (by omega) i2) k (by omega) k2
         by_cases hu : m < u
         ·exact hs u v (by omega) u2 hin.2
         ·rw [hSm u (by omega)]
          have hum : r.2.2.getD u 0 ≤ r.2.2.getD m 0 := by
           by_cases e2 : u = m
           ·rw [e2]
            exact Int.le_refl _
           ·exact hlo u hin.1 (by omega)
          by_cases e3 : v = m
          ·rw [e3,hSm m (Nat.le_refl _)]
           exact hum
          ·have := hShi v (by omega) hin.2
           omega
        ·exact horS u v u1 u2 u3 hin
     unfold Di
     simp only
     refine Ok.ite (fun ce => ?_) fun _ => hJ11 false fun e => by simp at e
     have ce := of_decide_eq_true ce
     have wc : w64 ((c : Int) - 1) = ((c - 1 : Nat) : Int) := by
      rw [Ax (by omega) (by omega)]
      omega
     have ec : Int.toNat ((c - 1 : Nat) : Int) = c - 1 := by omega
     have ep : Int.toNat (p : Int) = p := by omega
     rw [wc,ec,ep]
     refine Ok.guard (by omega) (Ok.guard (by omega) (Ok.guard (by omega) (Ok.guard (by omega) ?_)))
     refine Ok.step (Kh _ _) (hJ11 _ fun e => ⟨by omega,?_⟩)
     simpa using e
    unfold Ds
    simp only
    refine Ok.ite (fun _ => ?_) fun _ => hJ10 K rK
    refine Ok.bind (Ajy hcd (by omega) (by omega) (hlowc.rp rK)) fun r ⟨rr,hs⟩ => ?_
    refine Ok.guard rr.len.symm ?_
    exact Ok.ite (fun e => Ok.ret (done _ (rK.trans rr) (hs e))) fun _ => hJ10 _ (rK.trans rr)
   unfold Du
   simp only
   refine Ok.bind (AgI hcd (by omega) (by omega)) fun r hr => ?_
   refine Ok.ite (fun _ => ?_) fun _ => hJ9 N r.1 r.2 rN hr
   refine Ok.bind (Ajc (by omega) (by omega) (by omega)) fun K rK => ?_
   refine Ok.guard rK.len.symm (hJ9 _ _ _ (rN.trans rK) ?_)
   obtain ⟨p,hp,p1,p2⟩ := hr
   rw [hp,Ax (n := (d : Int) - 1) (by omega) (by omega),Ax (n := (p : Int) - (c : Int)) (by omega) (by omega),Ax (by omega) (by omega)]
   exact ⟨d - 1 - (p - c),by omega,by omega,by omega⟩
  refine Ok.ite (fun _ => ?_) fun _ => hJ8 M _ (.refl _ _ _)
  refine Ok.bind (break_ok hcd (by omega) (by omega)) fun N rN => ?_
  exact Ok.guard rN.len.symm (hJ8 _ _ rN)
theorem Sort_ok (L : List Int) (hl : L.length ≤ 1000) : Ok (Hz L) (fun M => M.Perm L ∧ M.Pairwise (· ≤ ·)) := by
 unfold Hz
 refine Ok.bind (AhQ hl) fun k _ => ?_
 unfold Kv
 have h := pdq_F Dy (L := L) (a := 0) (b := L.length) k (by rw [Dc]; omega) (by omega) (Nat.le_refl _) hl (fun h => by omega)
 refine Ok.bind h fun M ⟨rp,hs⟩ => Ok.guard rp.len.symm (Ok.ret ⟨rp.perm,?_⟩)
 rw [List.pairwise_iff_getElem]
 intro i j hi hj hij
 have := hs i j (by omega) hij (by have := rp.len; omega)
 rw [Gp hi,Gp hj] at this
 exact this
end Go.Dm

/- Plain theory, part 15: counts. -/
namespace Go.Dm
theorem Adj {t : Ag} (w : WfT t) (id : Int) : Ln t id = some (upT t id) := by
 apply Ok.eq
 have l2 := w.len2
 unfold Ln
 refine Ok.guard (by omega) ?_
 refine Ok.range (fun pre s => s.1 ++ upT t s.2 = upT t id ∧ s.1.length = pre.length) ⟨by simp,rfl⟩ ?_ ?_
 ·rintro pre x post ⟨o,c⟩ n he ⟨i1,i2⟩ hn
  simp only at i1 i2
  unfold Qt Jv
  refine Ok.step (AgP t c (by omega)) ?_
  cases hg : Ul t c with
  | none =>
   refine Ok.ret ?_
   have : upT t c = [] := Aff fun y hy e => by
    unfold Ul at hg
    rw [List.find?_eq_none] at hg
    have := hg y (by simpa using hy)
    simp [e] at this
   rw [this] at i1
   simpa using i1
  | some y =>
   obtain ⟨hy,hyc⟩ := Wl hg
   have hp : pre.length < t.nodes.length := by rw [he]; simp
   simp only [Option.elim_some,Bool.not_true,Bool.false_eq_true,if_false]
   refine Ok.guard (by omega) (hn _ ⟨?_,by simp [i2]⟩)
   simp only
   rw [← i1,← hyc,w.up hy]
   simp
 ·rintro ⟨o,c⟩ ⟨i1,i2⟩
  simp only at i1 i2
  refine Ok.ret ?_
  have hlen := Oh t.nodes.reverse id
  rw [List.length_reverse] at hlen
  change (upT t id).length ≤ t.nodes.length at hlen
  rw [← i1] at hlen
  have : (upT t c).length = 0 := by
   rw [List.length_append] at hlen
   omega
  have : upT t c = [] := List.length_eq_zero_iff.mp this
  rw [this] at i1
  simpa using i1
end Go.Dm

/- Plain theory, part 16: made counts. -/
namespace Go.Dm
theorem Ahp {α : Type} {l : List α} {i : Nat} {a d : α} (h : i < l.length) : (l.set i a).getD i d = a := by
 simp [List.getD_eq_getElem?_getD,h]
end Go.Dm

/- Plain theory, part 17: room and refusals. -/
namespace Go.Dm
end Go.Dm

/- Plain theory, part 18: sums of counts. -/
namespace Go.Dm
theorem has_of {t : Ag} {x : An} (hx : x ∈ t.nodes) : Gu t x.id = true := hasN_iff.mpr ⟨x,hx,rfl⟩
end Go.Dm

/- Plain theory, part 19: charges, limits; the document's functions on counts. -/
namespace Go.Dm
end Go.Dm

/- Plain theory, part 21: what changes leave as it is; sizes of made hierarchies. -/
namespace Go.Dm
end Go.Dm

/- Plain theory, part 22: the program's changes of hierarchies are the document's. -/
namespace Go.Dm
theorem AdB {α : Type} {L : List α} {a n : Nat} {x : α} (h : a + n ≤ L.length) : (Ki L a n x).length = L.length := by
 simp only [Ki,List.length_append,List.length_take,List.length_replicate,List.length_drop]
 omega
theorem AbX {α : Type} {L : List α} {a n : Nat} {x : α} (h : a ≤ L.length) : (Ki L a n x).take a = L.take a := by
 unfold Ki
 rw [List.take_append_of_le_length (by rw [List.length_take]; omega),List.take_take,Nat.min_self]
theorem AiB {α R : Type} {p : α → Bool} {L : List α} {d : α} (hl : L.length ≤ 1000000) {body : List α × Int × Int → (List α × Int × Int → Option R) → Option R} {Q : R → Prop} {i0 : Nat} (hi0 : i0 < L.length) (h0 : ∀ x ∈ L.take i0,p x = false) (hp : p (L.getD i0 d) = true)
  (hb : ∀ (M : List α) (i j : Nat) n,M.length = L.length → i < j → j < L.length → (∀ s,(s = if p (M.getD j d) then (M,(i : Int),((j + 1 : Nat) : Int)) else (M.set i (M.getD j d),((i + 1 : Nat) : Int),((j + 1 : Nat) : Int))) → Ok (n s) Q) → Ok (body (M,(i : Int),(j : Int)) n) Q)
  (hr : ∀ (M : List α) (i : Nat) n,M.length = L.length → i ≤ L.length → M.take i = L.filter (fun x => !p x) → Ok (body (M,(i : Int),(L.length : Int)) n) Q) : Ok (whileO body Dy (L,(i0 : Int),((i0 + 1 : Nat) : Int))) Q := by
 refine Ok.while (fun s => ∃ i j : Nat,s.2.1 = (i : Int) ∧ s.2.2 = (j : Int) ∧ i < j ∧ j ≤ L.length ∧ s.1.length = L.length ∧ s.1.take i = (L.take j).filter (fun x => !p x) ∧ s.1.drop j = L.drop j) (fun s => L.length - s.2.2.toNat) ?_ ?_ ?_
 ·refine ⟨i0,i0 + 1,rfl,rfl,by omega,by omega,rfl,?_,rfl⟩
  have e : L.take (i0 + 1) = L.take i0 ++ [L.getD i0 d] := by
   rw [List.take_add_one,Gp hi0]
   simp [hi0]
  rw [e,List.filter_append,List.filter_eq_self.mpr fun x hx => by simp [h0 x hx]]
  simp only [hp,Bool.not_true,List.filter_cons,Bool.false_eq_true,if_false,List.filter_nil,List.append_nil]
 ·rw [Dc]
  omega
 ·rintro ⟨M,x,y⟩ n ⟨i,j,e1,e2,hij,hj,hM,ht,hd⟩ hn
  simp only at e1 e2 hM ht hd
  subst e1 e2
  by_cases hjl : j < L.length
  ·refine hb M i j n hM hij hjl fun s hs => ?_
   have hMj : M.getD j d = L.getD j d := by
    have := congrArg List.head? hd
    rw [List.head?_drop,List.head?_drop] at this
    rw [List.getD_eq_getElem?_getD,List.getD_eq_getElem?_getD,this]
   have e : L.take (j + 1) = L.take j ++ [L.getD j d] := by
    rw [List.take_add_one,Gp hjl]
    simp [hjl]
   have hd' : M.drop (j + 1) = L.drop (j + 1) := by
    have := congrArg (List.drop 1) hd
    rw [List.drop_drop,List.drop_drop] at this
    exact this
   cases hpj : p (M.getD j d) with
   | true =>
    rw [hpj,if_pos rfl] at hs
    subst hs
    refine hn _ ⟨i,j + 1,rfl,rfl,by omega,by omega,hM,?_,hd'⟩ (by simp only; omega)
    simp only
    rw [ht,e,List.filter_append,← hMj,List.filter_cons,hpj]
    simp
   | false =>
    rw [hpj,if_neg (by simp)] at hs
    subst hs
    refine hn _ ⟨i + 1,j + 1,rfl,rfl,by omega,by omega,by simp [hM],?_,?_⟩ (by simp only; omega)
    ·simp only
     rw [e,List.filter_append,← hMj,← ht]
     have hi : i < M.length := by omega
     rw [List.take_add_one,List.filter_cons,hpj,List.take_set_of_le (Nat.le_refl _),List.getElem?_set_self hi]
     rfl
    ·simp only
     rw [List.drop_set_of_lt (by omega),hd']
  ·obtain rfl : j = L.length := by omega
   refine hr M i n hM (by omega) ?_
   rw [ht,List.take_length]
end Go.Dm

/- Plain theory, part 23: spoiled hierarchies; hierarchies that are refused. -/
namespace Go.Dm
end Go.Dm

/- Plain theory, part 24: kinds of groups, domains, what fits. -/
namespace Go.Dm
theorem find6 {h : Aa} (w : WfH h) (id : Int) : Ha h id = some ((Er h.tasks id).getD zK,(Er h.tasks id).isSome) := by
 rw [Sb w]
 cases Er h.tasks id <;> rfl
theorem findC {h : Aa} (w : WfH h) (id : Int) : Qz h id = some ((Er h.tasks id).getD zK,(Er h.tasks id).isSome) := by
 have := w.len
 rw [AdT h id (by omega)]
 cases Er h.tasks id <;> rfl
theorem ancN_up {t : Ag} (id : Int) : ancN t id = upT t id := by
 unfold ancN
 cases hg : Gu t id with
 | true => rfl
 | false =>
  have : upT t id = [] := Aff fun y hy e => by
   have := hasN_iff.mpr ⟨y,by simpa using hy,e⟩
   rw [hg] at this
   simp at this
  rw [this]
  rfl
theorem Aaj {α : Type} {P : α → Prop} {pre : List α} {x : α} (h1 : ∀ y ∈ pre,P y) (h2 : P x) : ∀ y ∈ pre ++ [x],P y := by
 intro y hy
 rcases List.mem_append.mp hy with hy | hy
 ·exact h1 y hy
 ·obtain rfl : y = x := by simpa using hy
  exact h2
end Go.Dm

/- Plain theory, part 25: forks that are counted. -/
namespace Go.Dm
end Go.Dm

/- Plain theory, part 39: ascending lists; Sorted of the sets; Compact of lists that do not fall. -/
namespace Go.Dm
abbrev Asc (L : List Int) : Prop := L.Pairwise (· < ·)
theorem Aei : ∀ {A B : List Int},Asc A → Asc B → (∀ x,x ∈ A ↔ x ∈ B) → A = B
 | [],B,_,_,h => by
  cases B with
  | nil => rfl
  | cons b B => exact absurd ((h b).mpr (by simp)) (by simp)
 | a :: A,[],_,_,h => absurd ((h a).mp (by simp)) (by simp)
 | a :: A,b :: B,ha,hb,h => by
  rw [Asc,List.pairwise_cons] at ha hb
  have hab : a = b := by
   rcases List.mem_cons.mp ((h a).mp (by simp)) with e | e
   ·exact e
   ·rcases List.mem_cons.mp ((h b).mpr (by simp)) with e' | e'
    ·exact e'.symm
    ·have h1 := hb.1 a e
     have h2 := ha.1 b e'
     omega
  subst hab
  congr 1
  refine Aei ha.2 hb.2 fun x => ?_
  have hx := h x
  simp only [List.mem_cons] at hx
  constructor
  ·intro hm
   rcases hx.mp (.inr hm) with e | e
   ·have := ha.1 x hm
    omega
   ·exact e
  ·intro hm
   rcases hx.mpr (.inr hm) with e | e
   ·have := hb.1 x hm
    omega
   ·exact e
theorem asc_nodup {A : List Int} (h : Asc A) : A.Nodup := h.imp fun h => by omega
theorem le_at {L : List Int} (h : L.Pairwise (· ≤ ·)) {i j : Nat} (hij : i ≤ j) (hj : j < L.length) : L.getD i 0 ≤ L.getD j 0 := by
 by_cases e : i = j
 ·subst e
  omega
 ·rw [Gp hj,Gp (by omega)]
  exact List.pairwise_iff_getElem.mp h i j (by omega) hj (by omega)
theorem Fa {L : List Int} {k : Nat} (h : k < L.length) : L.take (k + 1) = L.take k ++ [L.getD k 0] := by
 rw [List.take_add_one,Gp h,List.getElem?_eq_getElem h]
 rfl
theorem AiV {L : List Int} (hl : L.length ≤ 1000000) (h : L.Pairwise (· ≤ ·)) : Ok (Hr L) (fun r => r.2.length = L.length ∧ r.1 ≤ L.length ∧ Asc (r.2.take r.1) ∧ ∀ x,x ∈ r.2.take r.1 ↔ x ∈ L) := by
 have whole : Asc L → (L.length,L).2.length = L.length ∧ (L.length,L).1 ≤ L.length ∧ Asc ((L.length,L).2.take (L.length,L).1) ∧ ∀ x,x ∈ (L.length,L).2.take (L.length,L).1 ↔ x ∈ L := by
  intro ha
  refine ⟨rfl,Nat.le_refl _,?_,fun x => ?_⟩
  ·show Asc (L.take L.length)
   rw [List.take_length]
   exact ha
  ·show x ∈ L.take L.length ↔ x ∈ L
   rw [List.take_length]
 unfold Hr
 refine Ok.ite (fun c => Ok.ret (whole ?_)) fun c => ?_
 ·have : L.length < 2 := by
   have : ((L.length : Nat) : Int) < 2 := by simpa using c
   omega
  match L,this with
  | [],_ => exact List.Pairwise.nil
  | [a],_ => simp [Asc]
 have hl2 : 2 ≤ L.length := by
  have : ¬ ((L.length : Nat) : Int) < 2 := by simpa using c
  omega
 refine Ok.guard (by omega) ?_
 refine Ok.for (fun j _ => Asc (L.take (j + 1))) ?_ ?_ ?_
 ·rw [Fa (by omega)]
  simp [Asc]
 ·intro j _ n hj ha hn
  have hj' : j + 1 < L.length := by omega
  have hw : w64 (1 + (j : Int) - 1) = (j : Int) := by
   rw [Ax (by omega) (by omega)]
   omega
  have e1 : Int.toNat (1 + (j : Int)) = j + 1 := by omega
  have e0 : Int.toNat (j : Int) = j := by omega
  unfold Oq
  rw [hw,e1,e0]
  refine Ok.guard ⟨by omega,by omega⟩ (Ok.guard hj' (Ok.guard ⟨by omega,by omega⟩ (Ok.guard (by omega) ?_)))
  refine Ok.ite (fun c => ?_) fun c => ?_
  ·have heq : L.getD (j + 1) 0 = L.getD j 0 := by simpa using c
   refine Ok.guard ⟨by omega,by omega⟩ (Ok.guard (by rw [Nw]; omega) ?_)
   refine Ok.for (fun q s => ∃ k : Nat,s.2 = (k : Int) ∧ s.1.length = L.length ∧ 1 ≤ k ∧ k ≤ j + 1 + q ∧ s.1.drop (j + 1 + q) = L.drop (j + 1 + q) ∧ Asc (s.1.take k) ∧ (∀ x,x ∈ s.1.take k ↔ x ∈ L.take (j + 1 + q + 1)) ∧ s.1.getD (k - 1) 0 = L.getD (j + 1 + q) 0) ?_ ?_ ?_
   ·refine ⟨j + 1,by simp only; omega,rfl,by omega,by omega,rfl,ha,fun x => ?_,?_⟩
    ·show x ∈ L.take (j + 1) ↔ x ∈ L.take (j + 1 + 0 + 1)
     rw [Nat.add_zero,Fa (k := j + 1) hj',List.mem_append,heq]
     constructor
     ·exact .inl
     ·rintro (h | h)
      ·exact h
      ·have : x = L.getD j 0 := by simpa using h
       rw [this,Fa (k := j) (by omega)]
       simp
    ·simp only [Nat.add_sub_cancel,Nat.add_zero]
     exact heq.symm
   ·rintro q ⟨M,k'⟩ m hq ⟨k,e2,hM,k1,hk,hd,hasc,hmem,hlast⟩ hm
    simp only at e2 hM hd hasc hmem hlast
    subst e2
    rw [Nw] at hq
    have hw2 : w64 (1 + (q : Int) - 1) = (q : Int) := by
     rw [Ax (by omega) (by omega)]
     omega
    have e3 : Int.toNat (1 + (q : Int)) = q + 1 := by omega
    have e4 : Int.toNat (q : Int) = q := by omega
    have hqL : j + 1 + q + 1 < L.length := by omega
    have hget : ∀ i,j + 1 + q ≤ i → M.getD i 0 = L.getD i 0 := by
     intro i hi
     have h1 : M.getD i 0 = (M.drop (j + 1 + q)).getD (i - (j + 1 + q)) 0 := by
      simp only [List.getD_eq_getElem?_getD,List.getElem?_drop]
      congr 2
      omega
     have h2 : L.getD i 0 = (L.drop (j + 1 + q)).getD (i - (j + 1 + q)) 0 := by
      simp only [List.getD_eq_getElem?_getD,List.getElem?_drop]
      congr 2
      omega
     rw [h1,h2,hd]
    unfold Om
    simp only
    rw [hw2,e1,e3,e4,Nw,Yv,Yv,hget (j + 1 + (q + 1)) (by omega),hget (j + 1 + q) (by omega),hM]
    refine Ok.guard ⟨by omega,by omega⟩ (Ok.guard (by omega) (Ok.guard ⟨by omega,by omega⟩ (Ok.guard (by omega) ?_)))
    have hk' : Int.toNat (k : Int) = k := by omega
    have hle := le_at h (i := j + 1 + q) (j := j + 1 + (q + 1)) (by omega) (by omega)
    have htake : L.take (j + 1 + (q + 1) + 1) = L.take (j + 1 + q + 1) ++ [L.getD (j + 1 + (q + 1)) 0] := Fa (k := j + 1 + (q + 1)) (by omega)
    have hin : L.getD (j + 1 + q) 0 ∈ L.take (j + 1 + q + 1) := by
     rw [Fa (by omega)]
     simp
    refine Ok.ite (fun c => ?_) fun c => ?_
    ·have hne : L.getD (j + 1 + (q + 1)) 0 ≠ L.getD (j + 1 + q) 0 := by simpa using c
     refine Ok.guard ⟨by omega,by omega⟩ (Ok.guard (by omega) (Ok.guard ⟨by omega,by omega⟩ (Ok.guard (by rw [hk']; omega) ?_)))
     rw [hk']
     have hwk : w64 ((k : Int) + 1) = ((k + 1 : Nat) : Int) := by
      rw [Ax (by omega) (by omega)]
      omega
     have hset : (M.set k (L.getD (j + 1 + (q + 1)) 0)).take (k + 1) = M.take k ++ [L.getD (j + 1 + (q + 1)) 0] := by
      rw [Fa (by rw [List.length_set]; omega),List.take_set_of_le (Nat.le_refl _)]
      congr 2
      rw [List.getD_eq_getElem?_getD,List.getElem?_set_self (by omega)]
      rfl
     refine hm _ ⟨k + 1,by rw [hwk],by simp [hM],by omega,by omega,?_,?_,?_,?_⟩
     ·show (M.set k _).drop (j + 1 + (q + 1)) = L.drop (j + 1 + (q + 1))
      rw [List.drop_set_of_lt (by omega),show j + 1 + (q + 1) = j + 1 + q + 1 by omega,← List.drop_drop,hd,List.drop_drop]
     ·show Asc ((M.set k _).take (k + 1))
      rw [hset,Asc,List.pairwise_append]
      refine ⟨hasc,by simp,fun a ha b hb => ?_⟩
      have hb' : b = L.getD (j + 1 + (q + 1)) 0 := by simpa using hb
      have hkk : k = k - 1 + 1 := by omega
      rw [hkk,Fa (by omega),List.mem_append] at ha
      rcases ha with ha | ha
      ·have h2 := hasc
       rw [hkk,Fa (by omega),Asc,List.pairwise_append] at h2
       have := h2.2.2 a ha _ (List.mem_singleton.mpr rfl)
       omega
      ·have : a = M.getD (k - 1) 0 := by simpa using ha
       omega
     ·intro x
      show x ∈ (M.set k _).take (k + 1) ↔ _
      rw [hset,htake,List.mem_append,List.mem_append,hmem x]
     ·show (M.set k _).getD (k + 1 - 1) 0 = _
      rw [Nat.add_sub_cancel,List.getD_eq_getElem?_getD,List.getElem?_set_self (by omega)]
      rfl
    ·have heq2 : L.getD (j + 1 + (q + 1)) 0 = L.getD (j + 1 + q) 0 := by simpa using c
     refine hm _ ⟨k,rfl,hM,k1,by omega,?_,hasc,?_,?_⟩
     ·show M.drop (j + 1 + (q + 1)) = L.drop (j + 1 + (q + 1))
      rw [show j + 1 + (q + 1) = j + 1 + q + 1 by omega,← List.drop_drop,hd,List.drop_drop]
     ·intro x
      show x ∈ M.take k ↔ _
      rw [htake,List.mem_append,hmem x]
      constructor
      ·exact .inl
      ·rintro (h | h)
       ·exact h
       ·have : x = L.getD (j + 1 + (q + 1)) 0 := by simpa using h
        rw [this,heq2]
        exact hin
     ·show M.getD (k - 1) 0 = _
      rw [hlast]
      exact heq2.symm
   ·rintro ⟨M,k'⟩ ⟨k,e2,hM,k1,hk,hd,hasc,hmem,hlast⟩
    simp only at e2 hM hd hasc hmem hlast
    subst e2
    have hm0 : Int.toNat ((((Fp L.length (j + 1)) : Nat) : Int) - 1) = L.length - (j + 1) - 1 := by
     rw [Nw]
     omega
    rw [hm0] at hk hmem
    have hk' : Int.toNat (k : Int) = k := by omega
    unfold Oo
    simp only
    rw [hk',hM,Nw]
    have hfl : (Ki M k (L.length - k) 0).length = L.length := by
     rw [AdB (by omega),hM]
    refine Ok.guard ⟨by omega,by omega⟩ (Ok.guard (by omega) (Ok.guard ⟨by omega,by rw [hfl]; omega⟩ (Ok.ret ?_)))
    refine ⟨hfl,by show k ≤ _; omega,?_,?_⟩
    ·show Asc ((Ki M k (L.length - k) 0).take k)
     rw [AbX (by omega)]
     exact hasc
    ·intro x
     show x ∈ (Ki M k (L.length - k) 0).take k ↔ x ∈ L
     rw [AbX (by omega),hmem x,List.take_of_length_le (by omega)]
  ·have hne : L.getD (j + 1) 0 ≠ L.getD j 0 := by simpa using c
   refine hn () ?_
   have hle := le_at h (i := j) (j := j + 1) (by omega) hj'
   rw [Fa (k := j + 1) hj',Asc,List.pairwise_append]
   refine ⟨ha,by simp,fun a ha' b hb => ?_⟩
   have hb' : b = L.getD (j + 1) 0 := by simpa using hb
   rw [Fa (by omega),List.mem_append] at ha'
   rcases ha' with ha' | ha'
   ·have h2 := ha
    rw [Fa (by omega),Asc,List.pairwise_append] at h2
    have := h2.2.2 a ha' _ (List.mem_singleton.mpr rfl)
    omega
   ·have : a = L.getD j 0 := by simpa using ha'
    omega
 ·intro _ ha
  refine Ok.ret (whole ?_)
  have : Int.toNat (((L.length : Nat) : Int) - 1) + 1 = L.length := by omega
  rw [this,List.take_length] at ha
  exact ha
theorem sortU_ok {L : List Int} (hl : L.length ≤ 1000) : ∃ M,Hz L = some M ∧ M.length = L.length ∧ ∃ r,Hr M = some r ∧ r.2.length = M.length ∧ r.1 ≤ M.length ∧ Asc (r.2.take r.1) ∧ ∀ x,x ∈ r.2.take r.1 ↔ x ∈ L := by
 obtain ⟨M,h1,h2,h3⟩ := Sort_ok L hl
 have hlen := h2.length_eq
 obtain ⟨r,g1,g2,g3,g4,g5⟩ := AiV (L := M) (by omega) h3
 exact ⟨M,h1,hlen,r,g1,g2,g3,g4,fun x => (g5 x).trans h2.mem_iff⟩
end Go.Dm

/- Plain theory, part 30: what keeps Fits; all made hierarchies fit. -/
namespace Go.Dm
section
variable {t t' : Ag} {fn : An → An}
end
section
variable {t t' : Ag} {p : Int} {s : ByteArray}
end
end Go.Dm

/- Plain theory, part 31: threaded's functions. -/
namespace Go.Dm
end Go.Dm

/- Plain theory, part 32: new groups. -/
namespace Go.Dm
end Go.Dm

/- Plain theory, part 33: controllers are written, groups are made threaded. -/
namespace Go.Dm
end Go.Dm

/- Plain theory, part 34: names of made groups are short. -/
namespace Go.Dm
end Go.Dm

/- Plain theory, part 35: rights of users. -/
namespace Go.Dm
end Go.Dm

/- Plain theory, part 36: acts of users. -/
namespace Go.Dm
end Go.Dm

/- Plain theory, part 40: what is read of any hierarchy; processes; hierarchies that were handed in. -/
namespace Go.Dm
theorem AfC {α β : Type} (p : α → Bool) (f : α → β) (l : List α) : ((l.filter p).map f).length ≤ l.length := by
 rw [List.length_map]
 exact List.length_filter_le p l
end Go.Dm

/- Plain theory of freezers, part 1: what is read; valid freezers. -/
namespace Go.Dm
def zF (g : Int) : Ai := { group := g,want := false,frozen := false,changes := 0 }
def frN (f : Ac) (g : Int) : Ai := (f.frosts.find? (fun x => x.group == g)).getD (zF g)
def wN (t : Ag) (f : Ac) (id : Int) : Bool := (upT t id).any (fun g => (frN f g).want)
def rN (h : Aa) (f : Ac) (id : Int) : Bool := wN h.tree f id && h.tasks.all (fun x => !(upT h.tree x.group).contains id || f.stopped.contains x.id)
def wT (h : Aa) (f : Ac) (k : Int) : Bool := (Er h.tasks k).elim false (fun x => wN h.tree f x.group)
def Ng (b : Bool) (x : Ai) : Ai := if b != x.frozen then { group := x.group,want := x.want,frozen := b,changes := Mt (w64 (x.changes + 1)) 1099511627776 } else x
def Hv (h : Aa) (f : Ac) : Ac := { frosts := f.frosts.map (fun x => Ng (rN h f x.group) x),stopped := f.stopped }
structure Gr (f : Ac) : Prop where
 fr : f.frosts.length ≤ 1000
 st : f.stopped.length ≤ 1000
theorem AhD {l : List Int} {p : Int → Bool} : (l.find? p).elim false (fun _ => true) = l.any p := by
 induction l with
 | nil => rfl
 | cons a r ih =>
  rw [List.find?_cons,List.any_cons]
  cases p a with
  | true => rfl
  | false => simpa using ih
section
variable {h : Aa} {t : Ag} {f f' : Ac}
theorem AcC (hl : f.frosts.length ≤ 1000000) (g : Int) : Hl f g = some (frN f g) := by
 unfold Hl
 rw [if_pos (by omega),Ia (p := fun x : Ai => x.group == g) (f := id) (z := zF g) (fun k x n => rfl) rfl]
 unfold frN
 cases f.frosts.find? (fun x => x.group == g) <;> rfl
theorem Add (hl : f.frosts.length ≤ 1000000) (g : Int) : Tg f g = some (frN f g) := by
 unfold Tg
 rw [if_pos (by omega),Ia (p := fun x : Ai => x.group == g) (f := id) (z := zF g) (fun k x n => rfl) rfl]
 unfold frN
 cases f.frosts.find? (fun x => x.group == g) <;> rfl
theorem Ve (w : WfT t) (hl : f.frosts.length ≤ 1000000) (id : Int) : Kc t f id = some (wN t f id) := by
 have l2 := w.len2
 have hul : (upT t id).length ≤ 64 := by
  have := Oh t.nodes.reverse id
  rw [List.length_reverse] at this
  unfold upT
  omega
 unfold Kc
 rw [Adj w,Option.bind_some,if_pos (by omega),Ia (p := fun g => (frN f g).want) (f := fun _ => true) (z := false) (fun k x n => by
  unfold Vf
  rw [AcC hl,Option.bind_some]) rfl,AhD]
 rfl
theorem Rh (w : WfT t) (hl : f.frosts.length ≤ 1000000) (id : Int) : Hg t f id = some (wN t f id) := by
 have l2 := w.len2
 have hul : (upT t id).length ≤ 64 := by
  have := Oh t.nodes.reverse id
  rw [List.length_reverse] at this
  unfold upT
  omega
 unfold Hg
 rw [Of w,Option.bind_some,ancN_up,if_pos (by omega),Ia (p := fun g => (frN f g).want) (f := fun _ => true) (z := false) (fun k x n => by
  unfold Vq
  rw [Add hl,Option.bind_some]) rfl,AhD]
 rfl
theorem Agh (w : WfT t) (hl : f.frosts.length ≤ 1000000) (id : Int) : Oy t f id = some (wN t f id) := by
 unfold Oy
 rw [AhU w,Option.bind_some,if_pos rfl,Ve w hl,Option.bind_some]
 rfl
theorem Aaw (w : WfH h) (hl : f.frosts.length ≤ 1000000) (k : Int) : Hk h f k = some (wT h f k) := by
 unfold Hk wT
 rw [findC w,Option.bind_some]
 cases Er h.tasks k with
 | none => rfl
 | some x =>
  simp only [Option.isSome_some,if_true,Option.getD_some,Option.elim_some]
  rw [Ve w.tree hl,Option.bind_some]
  rfl
theorem Rp (hl : f.stopped.length ≤ 1000000) (k : Int) : Gq f k = some (f.stopped.contains k) := by
 unfold Gq
 rw [AeO _ _ hl]
 rfl
theorem Sx (hl : f.stopped.length ≤ 1000000) (k : Int) : Kl f k = some (f.stopped.contains k) := by
 unfold Kl
 rw [AeE _ _ hl]
 rfl
theorem AhT {α : Type} {l : List α} {p : α → Bool} : (l.find? (fun x => !p x)).elim true (fun _ => false) = l.all p := by
 induction l with
 | nil => rfl
 | cons a r ih =>
  rw [List.find?_cons,List.all_cons]
  cases p a with
  | true => simpa using ih
  | false => rfl
theorem Aco (w : WfH h) (hs : Gr f) (id : Int) : Mu h f id = some (rN h f id) := by
 have l1 := w.len
 have l2 := w.tree.len2
 have s1 := hs.fr
 have s2 := hs.st
 unfold Mu rN
 rw [Ve w.tree (by omega),Option.bind_some]
 cases hw : wN h.tree f id with
 | false => rfl
 | true =>
  rw [if_neg (by simp),Bool.true_and]
  apply Ok.eq
  refine Ok.bind (AeA w.tree id) fun l ⟨_,hl,hm⟩ => ?_
  refine Ok.guard (by omega) ?_
  have hc : ∀ g,l.contains g = (upT h.tree g).contains id := fun g => by
   rw [Bool.eq_iff_iff,List.contains_iff_mem,List.contains_iff_mem]
   exact hm g
  refine Ok.of_eq (Ia (p := fun x : Aw => !(!(upT h.tree x.group).contains id || f.stopped.contains x.id)) (f := fun _ => false) (z := true) (fun k x n => ?_) rfl) AhT
  unfold Xp Pg
  rw [AeO _ _ (by omega),Option.bind_some,hc,Rp (by omega),Option.bind_some]
  cases (upT h.tree x.group).contains id <;> cases f.stopped.contains x.id <;> rfl
theorem Acr (w : WfH h) (hs : Gr f) (id : Int) : Pi h f id = some (rN h f id) := by
 have l1 := w.len
 have l2 := w.tree.len2
 have s1 := hs.fr
 have s2 := hs.st
 unfold Pi rN
 rw [Rh w.tree (by omega),Option.bind_some]
 cases hw : wN h.tree f id with
 | false => rfl
 | true =>
  rw [if_neg (by simp),Bool.true_and,if_pos (by omega)]
  rw [Ia (p := fun x : Aw => !(!(upT h.tree x.group).contains id || f.stopped.contains x.id)) (f := fun _ => false) (z := true) (fun k x n => ?_) rfl,AhT]
  unfold Xg Oz
  have hul : (upT h.tree x.group).length ≤ 64 := by
   have := Oh h.tree.nodes.reverse x.group
   rw [List.length_reverse] at this
   unfold upT
   omega
  rw [Of w.tree,Option.bind_some,ancN_up,AeE _ _ (by omega),Option.bind_some,Sx (by omega),Option.bind_some]
  cases (upT h.tree x.group).contains id <;> cases f.stopped.contains x.id <;> rfl
def Aci (f f' : Ac) : Prop := ∀ g,(frN f g).want = (frN f' g).want
theorem Aft (e : Aci f f') (id : Int) : wN t f id = wN t f' id := by
 unfold wN
 congr 1
 funext g
 exact e g
theorem wT_congr (e : Aci f f') (k : Int) : wT h f k = wT h f' k := by
 unfold wT
 congr 1
 funext x
 exact Aft e _
theorem AhB (e : Aci f f') (es : f.stopped = f'.stopped) (id : Int) : rN h f id = rN h f' id := by
 unfold rN
 rw [Aft e,es]
theorem AhX {f f' : Ac} (e : f.frosts.map (fun x => (x.group,x.want)) = f'.frosts.map (fun x => (x.group,x.want))) : Aci f f' := by
 intro g
 unfold frN
 have key : ∀ (a b : List Ai),a.map (fun x => (x.group,x.want)) = b.map (fun x => (x.group,x.want)) → ((a.find? (fun x => x.group == g)).getD (zF g)).want = ((b.find? (fun x => x.group == g)).getD (zF g)).want := by
  intro a
  induction a with
  | nil =>
   intro b hb
   have : b = [] := by simpa using hb.symm
   rw [this]
  | cons x r ih =>
   intro b hb
   cases b with
   | nil => simp at hb
   | cons y s =>
    simp only [List.map_cons,List.cons.injEq,Prod.mk.injEq] at hb
    rw [List.find?_cons,List.find?_cons,hb.1.1]
    cases (y.group == g) with
    | true => exact hb.1.2
    | false => exact ih s hb.2
 exact key _ _ e
theorem Vp (b : Bool) (x : Ai) : (Ng b x).group = x.group ∧ (Ng b x).want = x.want ∧ (Ng b x).frozen = b := by
 unfold Ng
 split
 ·exact ⟨rfl,rfl,rfl⟩
 ·rename_i hc
  refine ⟨rfl,rfl,?_⟩
  have : b = x.frozen := by simpa using hc
  exact this.symm
theorem Wj (h : Aa) (f : Ac) : Aci (Hv h f) f := by
 refine AhX ?_
 unfold Hv
 rw [List.map_map]
 apply List.map_congr_left
 intro x _
 simp only [Function.comp]
 rw [(Vp _ x).1,(Vp _ x).2.1]
structure FzOk (h : Aa) (f : Ac) : Prop where
 grp : f.frosts.map (·.group) = h.tree.nodes.map (·.id)
 chg : ∀ x ∈ f.frosts,0 ≤ x.changes ∧ x.changes ≤ 1099511627776
 asc : Asc f.stopped
 stp : ∀ k ∈ f.stopped,wT h f k = true
 frz : ∀ x ∈ f.frosts,x.frozen = rN h f x.group
theorem FzOk.len (k : FzOk h f) : f.frosts.length = h.tree.nodes.length := by
 have := congrArg List.length k.grp
 simpa using this
theorem wT_has {k : Int} (e : wT h f k = true) : ∃ x ∈ h.tasks,x.id = k ∧ wN h.tree f x.group = true := by
 unfold wT at e
 cases hk : Er h.tasks k with
 | none => rw [hk] at e; simp at e
 | some x =>
  rw [hk] at e
  exact ⟨x,(Th hk).1,(Th hk).2,e⟩
theorem FzOk.slen (k : FzOk h f) : f.stopped.length ≤ h.tasks.length := by
 have := Afq (l := f.stopped) (m := h.tasks.map (·.id)) (asc_nodup k.asc) fun x hx => by
  obtain ⟨y,hy,e,_⟩ := wT_has (k.stp x hx)
  exact List.mem_map.mpr ⟨y,hy,e⟩
 simpa using this
theorem FzOk.small (w : WfH h) (k : FzOk h f) : Gr f := by
 have l1 := w.len
 have l2 := w.tree.len2
 have := k.len
 have := k.slen
 exact ⟨by omega,by omega⟩
theorem pre_map {α β γ : Type} [Inhabited β] {p : α → γ} {q : β → γ} {L pre post : List α} {M : List β} {x : α} (e : L.map p = M.map q) (he : L = pre ++ x :: post) : pre.length < M.length ∧ p x = q (M.getD pre.length default) := by
 have hl := congrArg List.length e
 rw [he] at hl
 simp at hl
 have hlt : pre.length < M.length := by omega
 refine ⟨hlt,?_⟩
 have h1 : (L.map p)[pre.length]? = some (p x) := by
  rw [he]
  simp
 rw [e,List.getElem?_map,List.getElem?_eq_getElem hlt] at h1
 rw [Gp hlt]
 simpa using h1.symm
structure FrA (h : Aa) (pre : List Ai) : Prop where
 grp : pre.map (·.group) = (h.tree.nodes.take pre.length).map (·.id)
 chg : ∀ x ∈ pre,0 ≤ x.changes ∧ x.changes ≤ 1099511627776
theorem FrA.snoc {pre : List Ai} {x : Ai} (a : FrA h pre) (hl : pre.length < h.tree.nodes.length) (h1 : x.group = (h.tree.nodes.getD pre.length default).id) (h2 : 0 ≤ x.changes ∧ x.changes ≤ 1099511627776) : FrA h (pre ++ [x]) := by
 refine ⟨?_,Aaj a.chg h2⟩
 rw [List.map_append,a.grp,List.length_append,List.length_cons,List.length_nil,List.take_add_one,List.getElem?_eq_getElem hl,List.map_append,← Gp (d := default) hl]
 simp [h1]
theorem AhI {pre : List Int} {x : Int} (a : Asc pre) (h1 : ∀ y ∈ pre,y < x) : Asc (pre ++ [x]) := by
 rw [Asc,List.pairwise_append]
 exact ⟨a,by simp,fun y hy z hz => by rw [List.mem_singleton.mp hz]; exact h1 y hy⟩
theorem Afm (w : WfH h) (hs : Gr f) : Ok (Lj h f) (fun b => b = true ↔ FzOk h f) := by
 have l1 := w.len
 have l2 := w.tree.len2
 have s1 := hs.fr
 have s2 := hs.st
 have bad : ¬ FzOk h f → Ok (some false) (fun b : Bool => b = true ↔ FzOk h f) := fun hn => Ok.ret (by simp [hn])
 unfold Lj
 rw [AbF w,Option.bind_some,if_neg (by simp)]
 unfold Nx
 refine Ok.ite (fun c => bad fun k => ?_) fun c => ?_
 ·have := k.len
  simp at c
  omega
 have hlen : f.frosts.length = h.tree.nodes.length := by
  simp at c
  omega
 refine Ok.guard (by omega) ?_
 refine Ok.range (fun pre _ => FrA h pre) ⟨rfl,by simp⟩ ?_ ?_
 ·intro pre x post _ n he a hn
  have hpl : pre.length < h.tree.nodes.length := by
   rw [← hlen,he]
   simp
  have hx : x ∈ f.frosts := by rw [he]; simp
  unfold Vn Kf
  refine Ok.guard hpl ?_
  refine Ok.ite (fun c => ?_) fun c1 => Ok.ite (fun c => ?_) fun c2 => Ok.ite (fun c => ?_) fun c3 => ?_
  ·refine bad fun k => ?_
   have := (pre_map k.grp he).2
   simp [this] at c
  ·refine bad fun k => ?_
   have := k.chg x hx
   simp at c
   omega
  ·refine bad fun k => ?_
   have := k.chg x hx
   simp at c
   omega
  ·refine hn _ (a.snoc hpl (by simpa using c1) ?_)
   simp at c2 c3
   omega
 ·intro _ a
  unfold Vg
  refine Ok.guard (by omega) ?_
  refine Ok.range (fun pre _ => Asc pre ∧ ∀ k ∈ pre,wT h f k = true) ⟨List.Pairwise.nil,by simp⟩ ?_ ?_
  ·intro pre x post _ n he ⟨b1,b2⟩ hn
   have hx : x ∈ f.stopped := by rw [he]; simp
   have hrest : (∀ y ∈ pre,y < x) → Ok (Option.bind (Hk h f x) fun r => Ii n (!r)) (fun b => b = true ↔ FzOk h f) := by
    intro hlt
    rw [Aaw w (by omega),Option.bind_some]
    unfold Ii
    refine Ok.ite (fun c => bad fun k => ?_) fun c => ?_
    ·rw [k.stp x hx] at c
     simp at c
    ·exact hn _ ⟨AhI b1 hlt,Aaj b2 (by simpa using c)⟩
   unfold Ux
   rcases Jp pre with rfl | ⟨P,y,rfl⟩
   ·rw [if_neg (by simp)]
    exact hrest (by simp)
   ·have e1 : decide ((((P ++ [y]).length : Nat) : Int) > 0) = true := by simp
    have hlen2 := congrArg List.length he
    simp at hlen2
    have e2 : w64 ((((P ++ [y]).length : Nat) : Int) - 1) = (P.length : Int) := by
     rw [Ax (by simp <;> omega) (by simp <;> omega)]
     simp
    have e4 : f.stopped.getD (Int.toNat (P.length : Int)) 0 = y := by
     rw [he]
     exact So
    rw [e1,if_pos rfl,e2,e4]
    refine Ok.guard ⟨by omega,by omega⟩ ?_
    refine Ok.ite (fun c => bad fun k => ?_) fun c => hrest ?_
    ·have := k.asc
     rw [he,Asc,List.pairwise_append] at this
     have := this.2.2 y (by simp) x (by simp)
     simp at c
     omega
    ·have hyx : y < x := by simpa using c
     rw [Asc,List.pairwise_append] at b1
     intro z hz
     rcases List.mem_append.mp hz with hz | hz
     ·have := b1.2.2 z hz y (by simp)
      omega
     ·rw [List.mem_singleton.mp hz]
      exact hyx
  ·intro _ ⟨b1,b2⟩
   unfold Tm
   refine Ok.guard (by omega) ?_
   refine Ok.range (fun pre _ => ∀ x ∈ pre,x.frozen = rN h f x.group) (by simp) ?_ ?_
   ·intro pre x post _ n he hp hn
    have hx : x ∈ f.frosts := by rw [he]; simp
    unfold Uo
    rw [Aco w hs,Option.bind_some]
    refine Ok.ite (fun c => bad fun k => ?_) fun c => hn _ (Aaj hp (by simpa using c))
    rw [k.frz x hx] at c
    simp at c
   ·intro _ hp
    refine Ok.ret ⟨fun _ => ⟨?_,a.chg,b1,b2,hp⟩,fun _ => rfl⟩
    have := a.grp
    rw [hlen,List.take_length] at this
    exact this
theorem AaE (w : WfH h) (hs : Gr f) : Ok (Pj h f) (fun b => b = true ↔ FzOk h f) := by
 have l1 := w.len
 have l2 := w.tree.len2
 have s1 := hs.fr
 have s2 := hs.st
 have bad : ¬ FzOk h f → Ok (some false) (fun b : Bool => b = true ↔ FzOk h f) := fun hn => Ok.ret (by simp [hn])
 unfold Pj
 rw [Ij w,Option.bind_some,if_neg (by simp)]
 unfold Pc
 refine Ok.ite (fun c => bad fun k => ?_) fun c => ?_
 ·have := k.len
  simp at c
  omega
 have hlen : f.frosts.length = h.tree.nodes.length := by
  simp at c
  omega
 refine Ok.guard (by omega) ?_
 refine Ok.range (fun pre _ => FrA h pre) ⟨rfl,by simp⟩ ?_ ?_
 ·intro pre x post _ n he a hn
  have hpl : pre.length < h.tree.nodes.length := by
   rw [← hlen,he]
   simp
  have hx : x ∈ f.frosts := by rw [he]; simp
  unfold Xo Ld
  refine Ok.guard hpl ?_
  refine Ok.ite (fun c => ?_) fun c1 => Ok.ite (fun c => ?_) fun c2 => Ok.ite (fun c => ?_) fun c3 => ?_
  ·refine bad fun k => ?_
   have := (pre_map k.grp he).2
   simp [this] at c
  ·refine bad fun k => ?_
   have := k.chg x hx
   simp at c
   omega
  ·refine bad fun k => ?_
   have := k.chg x hx
   simp at c
   omega
  ·refine hn _ (a.snoc hpl (by simpa using c1) ?_)
   simp at c2 c3
   omega
 ·intro _ a
  unfold Xs
  refine Ok.guard (by omega) ?_
  refine Ok.range (fun pre _ => Asc pre ∧ ∀ k ∈ pre,wT h f k = true) ⟨List.Pairwise.nil,by simp⟩ ?_ ?_
  ·intro pre x post _ n he ⟨b1,b2⟩ hn
   have hx : x ∈ f.stopped := by rw [he]; simp
   unfold Vm
   rw [find6 w,Option.bind_some]
   cases hk : Er h.tasks x with
   | none =>
    refine bad fun k => ?_
    have := k.stp x hx
    unfold wT at this
    rw [hk] at this
    simp at this
   | some y =>
    have hwt : wT h f x = wN h.tree f y.group := by
     unfold wT
     rw [hk]
     rfl
    simp only [Option.isSome_some,Bool.not_true,Bool.false_eq_true,if_false,Option.getD_some]
    have hrest : (∀ y ∈ pre,y < x) → Ok (Option.bind (Hg h.tree f y.group) fun r => Hs n (!r)) (fun b => b = true ↔ FzOk h f) := by
     intro hlt
     rw [Rh w.tree (by omega),Option.bind_some,← hwt]
     unfold Hs
     refine Ok.ite (fun c => bad fun k => ?_) fun c => ?_
     ·rw [k.stp x hx] at c
      simp at c
     ·exact hn _ ⟨AhI b1 hlt,Aaj b2 (by simpa using c)⟩
    rcases Jp pre with rfl | ⟨P,z,rfl⟩
    ·rw [if_neg (by simp)]
     exact hrest (by simp)
    ·have e1 : decide ((((P ++ [z]).length : Nat) : Int) > 0) = true := by simp
     have hlen2 := congrArg List.length he
     simp at hlen2
     have e2 : w64 ((((P ++ [z]).length : Nat) : Int) - 1) = (P.length : Int) := by
      rw [Ax (by simp <;> omega) (by simp <;> omega)]
      simp
     have e4 : f.stopped.getD (Int.toNat (P.length : Int)) 0 = z := by
      rw [he]
      exact So
     rw [e1,if_pos rfl,e2,e4]
     refine Ok.guard ⟨by omega,by omega⟩ ?_
     refine Ok.ite (fun c => bad fun k => ?_) fun c => hrest ?_
     ·have := k.asc
      rw [he,Asc,List.pairwise_append] at this
      have := this.2.2 z (by simp) x (by simp)
      simp at c
      omega
     ·have hyx : z < x := by simpa using c
      rw [Asc,List.pairwise_append] at b1
      intro q hz
      rcases List.mem_append.mp hz with hz | hz
      ·have := b1.2.2 q hz z (by simp)
       omega
      ·rw [List.mem_singleton.mp hz]
       exact hyx
  ·intro _ ⟨b1,b2⟩
   unfold Vj
   refine Ok.guard (by omega) ?_
   refine Ok.range (fun pre _ => ∀ x ∈ pre,x.frozen = rN h f x.group) (by simp) ?_ ?_
   ·intro pre x post _ n he hp hn
    have hx : x ∈ f.frosts := by rw [he]; simp
    unfold Vu
    rw [Acr w hs,Option.bind_some]
    refine Ok.ite (fun c => bad fun k => ?_) fun c => hn _ (Aaj hp (by simpa using c))
    rw [k.frz x hx] at c
    simp at c
   ·intro _ hp
    refine Ok.ret ⟨fun _ => ⟨?_,a.chg,b1,b2,hp⟩,fun _ => rfl⟩
    have := a.grp
    rw [hlen,List.take_length] at this
    exact this
end
end Go.Dm

/- Plain theory of freezers, part 2: what changes make of them. -/
namespace Go.Dm
theorem Ahw (l : List Int) (x : Int) (hl : l.length ≤ 9223372036854775807) : On l x = some (l.contains x) := by
 unfold On
 rw [if_pos (by omega),Ia (p := fun y : Int => y == x) (f := fun _ => true) (z := false) (fun k y n => rfl) rfl]
 congr 1
 cases hf : l.find? (fun y => y == x) with
 | none =>
  rw [List.find?_eq_none] at hf
  cases hc : l.contains x
  ·rfl
  ·rw [List.contains_iff_mem] at hc
   have := hf x hc
   simp at this
 | some y =>
  have hm := List.mem_of_find?_eq_some hf
  have he := List.find?_some hf
  have : y = x := by simpa using he
  rw [this] at hm
  simp [hm]
theorem iff_t' {m : Option Bool} {p : Prop} (h : Ok m (fun b => b = true ↔ p)) (hp : p) : m = some true := Ok.eq (h.mono fun b hb => hb.mpr hp)
def zFr : Ac := { frosts := [],stopped := [] }
def Yg (h : Aa) (f : Ac) : Ac := { frosts := f.frosts,stopped := f.stopped.filter (wT h f) }
def Lx (h : Aa) (f : Ac) : List Int := (h.tasks.filter (fun x => f.stopped.contains x.id && wN h.tree f x.group)).map (·.id)
def Qq (id : Int) (b : Bool) (x : Ai) : Ai := if x.group == id then { group := x.group,want := b,frozen := x.frozen,changes := x.changes } else x
def Uw (f : Ac) (id : Int) (b : Bool) : Ac := { frosts := f.frosts.map (Qq id b),stopped := f.stopped }
def setF (h : Aa) (f : Ac) (id : Int) (b : Bool) : Ac := Hv h (Yg h (Uw f id b))
def Aen (h : Aa) (f : Ac) (busy : List Int) : List Int := (h.tasks.filter (fun x => f.stopped.contains x.id || (wN h.tree f x.group && !busy.contains x.id))).map (·.id)
def stepF (h : Aa) (f : Ac) (busy : List Int) : Ac := Hv h { frosts := f.frosts,stopped := Aen h f busy }
def Td (f : Ac) (x : An) : Ai := { group := x.id,want := (frN f x.id).want && (x.id != 1),frozen := (frN f x.id).frozen,changes := Mt (Vk (frN f x.id).changes 0) 1099511627776 }
def Nb (h : Aa) (f : Ac) : Ac := { frosts := h.tree.nodes.map (Td f),stopped := f.stopped }
def Xq (h : Aa) (f : Ac) : Ac := Hv h { frosts := (Nb h f).frosts,stopped := Lx h (Nb h f) }
theorem AgZ (f : Ac) (g : Int) : (frN f g).group = g := by
 unfold frN
 cases e : f.frosts.find? (fun x => x.group == g) with
 | none => rfl
 | some x => simpa using List.find?_some e
section
variable {h : Aa} {f : Ac}
theorem map_at {α : Type} {g : α → α} {L : List α} {d : α} {j : Nat} (hj : j < L.length) : ((L.take j).map g ++ L.drop j).getD j d = L.getD j d ∧ ((L.take j).map g ++ L.drop j).set j (g (L.getD j d)) = (L.take (j + 1)).map g ++ L.drop (j + 1) ∧ ((L.take j).map g ++ L.drop j).length = L.length := by
 have hd : L.drop j = L[j] :: L.drop (j + 1) := List.drop_eq_getElem_cons hj
 have hml : ((L.take j).map g).length = j := by
  rw [List.length_map,List.length_take]
  omega
 have ht : L.take (j + 1) = L.take j ++ [L[j]] := by
  rw [List.take_add_one]
  simp [hj]
 refine ⟨?_,?_,by simp; omega⟩
 ·rw [hd,List.getD_eq_getElem?_getD,List.getElem?_append_right (by omega),hml,Nat.sub_self,Gp hj]
  rfl
 ·rw [hd,List.set_append_right _ _ (by omega),hml,Nat.sub_self,List.set_cons_zero,ht,List.map_append,List.append_assoc,Gp hj]
  rfl
theorem AfM (w : WfH h) (hs : Gr f) : Dt { h := h,f := f } = some (Hv h f,{ h := h,f := Hv h f }) := by
 have s1 := hs.fr
 unfold Dt
 apply Ok.eq
 refine Ok.guard (by simp only; omega) ?_
 refine Ok.for (fun j s => s = (f.frosts.take j).map (fun x => Ng (rN h f x.group) x) ++ f.frosts.drop j) (by simp) ?_ ?_
 ·rintro j s n hj rfl hn
  have hj' : j < f.frosts.length := by
   simp only [Int.sub_zero] at hj
   omega
  obtain ⟨m1,m2,m3⟩ := map_at (g := fun x => Ng (rN h f x.group) x) (d := (default : Ai)) hj'
  generalize hM : (f.frosts.take j).map (fun x => Ng (rN h f x.group) x) ++ f.frosts.drop j = M at m1 m2 m3
  have hw : Aci { frosts := M,stopped := f.stopped } f := by
   refine AhX ?_
   rw [← hM,List.map_append,List.map_map]
   conv => rhs; rw [← List.take_append_drop j f.frosts,List.map_append]
   congr 1
   apply List.map_congr_left
   intro x _
   simp only [Function.comp]
   rw [(Vp _ x).1,(Vp _ x).2.1]
  have hjn : Int.toNat (0 + (j : Int)) = j := by omega
  unfold Lz Gs
  simp only
  rw [hjn,m1,m3]
  generalize hx : f.frosts.getD j default = x at m1 m2
  refine Ok.guard ⟨by omega,by omega⟩ (Ok.guard hj' ?_)
  have hrest : Mu h { frosts := M,stopped := f.stopped } x.group = some (rN h f x.group) := by
   rw [Aco w (f := { frosts := M,stopped := f.stopped }) ⟨by show M.length ≤ 1000; omega,hs.st⟩,AhB hw rfl]
  rw [hrest,Option.bind_some]
  refine Ok.guard hj' ?_
  have hMl : j < M.length := by omega
  refine Ok.ite (fun c => ?_) fun c => ?_
  ·refine Ok.guard hj' (Ok.guard hj' (Ok.guard hj' ?_))
   rw [Ahp hMl,List.set_set]
   simp only
   refine hn _ ?_
   rw [← m2]
   congr 1
   unfold Ng
   rw [if_pos c]
  ·refine hn _ ?_
   rw [← m2]
   have : Ng (rN h f x.group) x = x := by
    unfold Ng
    rw [if_neg (by rw [c]; simp)]
   rw [this,← m1]
   exact (Afk hMl).symm
 ·intro s hs2
  have e : Int.toNat (((f.frosts.length : Nat) : Int) - 0) = f.frosts.length := by omega
  simp only at hs2
  rw [e,List.take_length,List.drop_length,List.append_nil] at hs2
  subst hs2
  exact Ok.ret rfl
theorem Xk (w : WfH h) (hs : Gr f) : Gl h f = some (Hv h f) := by
 have s1 := hs.fr
 have s2 := hs.st
 unfold Gl
 rw [if_pos (by omega)]
 apply Ok.eq
 refine Ok.guard (by omega) ?_
 refine Ok.range (fun pre s => s = pre.map (fun x => Ng (rN h f x.group) x)) rfl ?_ ?_
 ·rintro pre x post s n he rfl hn
  have hl : pre.length + 1 ≤ f.frosts.length := by rw [he]; simp
  have hJ : ∀ y,y = Ng (rN h f x.group) x → Ok (Mc (pre.map (fun x => Ng (rN h f x.group) x)) n y) (fun b => b = Hv h f) := by
   rintro y rfl
   unfold Mc
   refine Ok.guard (by rw [List.length_map]; omega) (hn _ ?_)
   rw [List.map_append]
   rfl
  unfold Xj
  rw [Acr w hs,Option.bind_some]
  refine Ok.ite (fun c => hJ _ ?_) fun c => hJ _ ?_
  ·unfold Ng
   rw [if_pos c]
  ·unfold Ng
   rw [if_neg (by rw [c]; simp)]
 ·intro s hs2
  rw [hs2]
  exact Ok.ret rfl
theorem AfR (w : WfH h) (hl : f.frosts.length ≤ 1000000) (S : List Int) (k : Int) : Fw k { h := h,f := { frosts := f.frosts,stopped := S } } = some (!wT h f k) := by
 unfold Fw
 have e : Hk h { frosts := f.frosts,stopped := S } k = some (wT h { frosts := f.frosts,stopped := S } k) := Aaw w hl k
 simp only
 rw [e]
 rfl
theorem AfA (w : WfH h) (hl : f.frosts.length ≤ 1000000) (L S : List Int) (h2 : L.length ≤ 1000000) :
  Ok (Cg L { h := h,f := { frosts := f.frosts,stopped := S } }) (fun r => r.2.1.length = L.length ∧ r.1 ≤ L.length ∧ r.2.1.take r.1 = L.filter (wT h f) ∧ r.2.2.h = h ∧ r.2.2.f.frosts = f.frosts) := by
 have hff : L.filter (fun x => !(!wT h f x)) = L.filter (wT h f) := by
  congr 1
  funext x
  simp
 unfold Cg Da
 rw [if_pos (by omega),Vz (p := fun x => !wT h f x) (fun k x n => by
  unfold Ej
  rw [AfR w hl,Option.bind_some]) rfl]
 refine Ok.step rfl ?_
 rcases Ws (fun x => !wT h f x) L 0 with ⟨i,h1,h2',h3⟩ | ⟨h1,h2'⟩
 ·rw [h2',Option.elim_some]
  refine Ok.ite (fun c => by have := beq_iff_eq.mp c; omega) fun _ => ?_
  have e1 : w64 ((i : Int) + 1) = ((i + 1 : Nat) : Int) := by
   rw [Ax (by omega) (by omega)]
   omega
  rw [e1]
  have hh := List.findIdx?_eq_some_iff_getElem.mp h2'
  obtain ⟨g1,g2,g3⟩ := hh
  refine AiB (p := fun x => !wT h f x) (d := 0) h2 h1 ?_ ?_ ?_ ?_
  ·intro x hx
   obtain ⟨j,hj,rfl⟩ := List.getElem_of_mem hx
   rw [List.length_take] at hj
   rw [List.getElem_take]
   have := g3 j (by omega)
   simpa using this
  ·rw [Gp h1]
   exact g2
  ·intro M i j n hM hij hj hn
   unfold Cr Cd
   simp only
   have ei : Int.toNat (i : Int) = i := by omega
   have ej : Int.toNat (j : Int) = j := by omega
   rw [ei,ej]
   refine Ok.ite (fun _ => ?_) fun c => by
    have := of_decide_eq_false c
    omega
   refine Ok.guard (by omega) (Ok.guard (by omega) ?_)
   rw [AfR w hl,Option.bind_some]
   have ej1 : w64 ((j : Int) + 1) = ((j + 1 : Nat) : Int) := by
    rw [Ax (by omega) (by omega)]
    omega
   have ei1 : w64 ((i : Int) + 1) = ((i + 1 : Nat) : Int) := by
    rw [Ax (by omega) (by omega)]
    omega
   rw [ej1,ei1]
   refine Ok.ite (fun c => ?_) fun c => ?_
   ·refine Ok.guard (by omega) (Ok.guard (by omega) (hn _ ?_))
    rw [if_neg]
    simpa using c
   ·refine hn _ ?_
    rw [if_pos]
    rw [Bool.not_eq_false'] at c
    exact c
  ·intro M i n hM hi ht
   unfold Cr
   simp only
   have ei : Int.toNat (i : Int) = i := by omega
   rw [ei,Nw]
   refine Ok.ite (fun c => by have := of_decide_eq_true c; omega) fun _ => ?_
   have hfl : (Ki M i (M.length - i) (0 : Int)).length = M.length := AdB (by omega)
   refine Ok.guard (by omega) (Ok.guard (by omega) (Ok.guard (by rw [hfl]; omega) (Ok.ret ⟨by simp only; rw [hfl,hM],hi,?_,rfl,rfl⟩)))
   simp only
   rw [AbX (by omega),ht]
   exact hff
 ·rw [h1,Option.elim_none]
  refine Ok.ite (fun _ => Ok.ret ⟨rfl,Nat.le_refl _,?_,rfl,rfl⟩) fun c => by simp at c
  simp only [List.take_length]
  symm
  rw [List.filter_eq_self]
  intro x hx
  rw [List.find?_eq_none] at h2'
  have := h2' x hx
  simpa using this
theorem thaw_ok (w : WfH h) (hs : Gr f) : Ok (Gn { h := h,f := f }) (fun r => r.1.h = h ∧ r.1.f.frosts = f.frosts ∧ r.1.f.stopped.length = f.stopped.length ∧ r.2 ≤ f.stopped.length ∧ r.1.f.stopped.take r.2 = f.stopped.filter (wT h f)) := by
 have s1 := hs.fr
 have s2 := hs.st
 unfold Gn
 simp only
 refine Ok.bind (AfA w (by omega) f.stopped f.stopped (by omega)) fun r ⟨r1,r2,r3,r4,r5⟩ => ?_
 refine Ok.guard r1.symm (Ok.guard (by rw [r5]) (Ok.guard (by omega) (Ok.ret ⟨r4,r5,r1,r2,r3⟩)))
theorem tail_ok (w : WfH h) (hs : Gr f) {r : freezer × Nat} (r1 : r.1.h = h) (r2 : r.1.f.frosts = f.frosts) (r3 : r.1.f.stopped.length = f.stopped.length) (r4 : r.2 ≤ f.stopped.length) (r5 : r.1.f.stopped.take r.2 = f.stopped.filter (wT h f)) :
  Dt { h := r.1.h,f := { frosts := r.1.f.frosts,stopped := r.1.f.stopped.take r.2 } } = some (Hv h (Yg h f),{ h := h,f := Hv h (Yg h f) }) ∧ (Hv h (Yg h f)).stopped.length = (r.1.f.stopped.take r.2).length := by
 have hs2 : Gr (Yg h f) := ⟨hs.fr,by
  have := List.length_filter_le (wT h f) f.stopped
  have := hs.st
  show (f.stopped.filter (wT h f)).length ≤ 1000
  omega⟩
 rw [r1,r2,r5]
 exact ⟨AfM w hs2,rfl⟩
theorem keep_thaw (w : WfH h) (ha : Asc f.stopped) : f.stopped.filter (wT h f) = Lx h f := by
 refine Aei (ha.filter _) (Agw w.sorted _) fun x => ?_
 rw [List.mem_filter]
 constructor
 ·rintro ⟨h1,h2⟩
  obtain ⟨y,hy,e,hw⟩ := wT_has h2
  refine List.mem_map.mpr ⟨y,List.mem_filter.mpr ⟨hy,?_⟩,e⟩
  rw [e,hw,Bool.and_true]
  simpa using h1
 ·intro hx
  obtain ⟨y,hy,e⟩ := List.mem_map.mp hx
  obtain ⟨h1,h2⟩ := List.mem_filter.mp hy
  simp only [Bool.and_eq_true] at h2
  rw [e] at h2
  refine ⟨by simpa using h2.1,?_⟩
  unfold wT
  rw [← e,Abq w.sorted h1]
  exact h2.2
theorem Ads (w : WfH h) (f : Ac) : Asc (Lx h f) := Agw w.sorted _
theorem Aax {x : Int} (w : WfH h) : x ∈ Lx h f ↔ x ∈ f.stopped ∧ wT h f x = true := by
 constructor
 ·intro hx
  obtain ⟨y,hy,e⟩ := List.mem_map.mp hx
  obtain ⟨h1,h2⟩ := List.mem_filter.mp hy
  simp only [Bool.and_eq_true] at h2
  rw [e] at h2
  refine ⟨by simpa using h2.1,?_⟩
  unfold wT
  rw [← e,Abq w.sorted h1]
  exact h2.2
 ·rintro ⟨h1,h2⟩
  obtain ⟨y,hy,e,hw⟩ := wT_has h2
  refine List.mem_map.mpr ⟨y,List.mem_filter.mpr ⟨hy,?_⟩,e⟩
  rw [e,hw,Bool.and_true]
  simpa using h1
theorem AgX (h : Aa) (f : Ac) : (Lx h f).length ≤ h.tasks.length := AfC _ _ _
theorem Adb (w : WfH h) (hs : Gr f) : Ib h f = some (Lx h f) := by
 have l1 := w.len
 have s1 := hs.fr
 have s2 := hs.st
 unfold Ib
 rw [if_pos (by omega),Hn (p := fun x : Aw => f.stopped.contains x.id && wN h.tree f x.group) (f := fun x : Aw => x.id) (r := Aai) (fun k x s n hs => by
  unfold Yx Qh Qw
  rw [Sx (by omega),Option.bind_some,Rh w.tree (by omega),Option.bind_some,if_pos hs]
  cases f.stopped.contains x.id <;> cases wN h.tree f x.group <;> rfl) (fun _ => rfl) (by simp; omega),List.nil_append]
 rfl
theorem grp_nodup (w : WfH h) (k : FzOk h f) : (f.frosts.map (·.group)).Nodup := by
 rw [k.grp]
 exact Ahc w.tree
theorem Ajf (hs : Gr f) (id : Int) (b : Bool) : Gr (Uw f id b) := ⟨by simpa [Uw] using hs.fr,hs.st⟩
theorem clone_int {l : List Int} (hl : l.length ≤ 1000000) : Gj l = some l := by
 unfold Gj
 rw [if_pos (by omega)]
theorem AiN (w : WfH h) (k : FzOk h f) (id : Int) (b : Bool) : Wx h f id b = some (if !Gu h.tree id then (zFr,4) else if id == 1 then (zFr,9) else (setF h f id b,0)) := by
 have hs := k.small w
 have s1 := hs.fr
 have s2 := hs.st
 have l1 := w.len
 unfold Wx
 rw [iff_t' (AaE w hs) k,Option.bind_some,if_neg (by simp),Mp w.tree,Option.bind_some]
 cases hg : Gu h.tree id with
 | false => rfl
 | true =>
  simp only [Bool.not_true,Bool.false_eq_true,if_false]
  cases hr : (id == 1) with
  | true => rfl
  | false =>
   simp only [Bool.false_eq_true,if_false]
   rw [if_pos (by omega)]
   have hw := Ajf hs id b
   have hk : Ib h (Uw f id b) = some (Lx h (Uw f id b)) := Adb w hw
   have hfin : Option.bind (Ib h { frosts := f.frosts.map (Qq id b),stopped := f.stopped }) (fun r24 => Option.bind (Gl h { frosts := f.frosts.map (Qq id b),stopped := r24 }) fun r26 => some (r26,(0 : Int))) = some (setF h f id b,0) := by
    have e1 : Ib h { frosts := f.frosts.map (Qq id b),stopped := f.stopped } = some (Lx h (Uw f id b)) := hk
    rw [e1,Option.bind_some]
    have e2 : Lx h (Uw f id b) = (Yg h (Uw f id b)).stopped := (keep_thaw (f := Uw f id b) w k.asc).symm
    have hs3 : Gr { frosts := f.frosts.map (Qq id b),stopped := Lx h (Uw f id b) } := ⟨hw.fr,by
     have := AgX h (Uw f id b)
     simp only
     omega⟩
    rw [Xk w hs3,Option.bind_some,e2]
    rfl
   rw [Aha (f := Qq id b) (d := (default : Ai)) (ret := fun M => Option.bind (Ib h { frosts := M,stopped := f.stopped }) (fun r24 => Option.bind (Gl h { frosts := M,stopped := r24 }) fun r26 => some (r26,(0 : Int)))) (by omega) ?_ ?_]
   ·exact hfin
   ·intro M m n hM hm
    have e1 : w64 ((m : Int) + 1) = ((m + 1 : Nat) : Int) := by
     rw [Ax (by omega) (by omega)]
     omega
    have e2 : Int.toNat (m : Int) = m := by omega
    unfold Wa Rx
    simp only
    rw [e1,e2,if_pos (by simp; omega),if_pos ⟨by omega,by omega⟩,if_pos (by omega)]
    by_cases hc : (M.getD m default).group = id
    ·rw [if_pos (by simpa using hc),if_pos ⟨by omega,by omega⟩,if_pos (by omega)]
     congr 2
     unfold Qq
     rw [if_pos (by simpa using hc)]
    ·rw [if_neg (by simpa using hc)]
     congr 2
     unfold Qq
     rw [if_neg (by simpa using hc)]
     exact (Afk (by omega)).symm
   ·intro M n hM
    unfold Wa
    simp only
    rw [if_neg (by simp; omega)]
theorem stepL_asc (w : WfH h) (f : Ac) (busy : List Int) : Asc (Aen h f busy) := Agw w.sorted _
theorem stepL_len (h : Aa) (f : Ac) (busy : List Int) : (Aen h f busy).length ≤ h.tasks.length := AfC _ _ _
theorem AhE (w : WfH h) (k : FzOk h f) {busy : List Int} (hb : busy.length ≤ 9223372036854775807) : Tv h f busy = some (stepF h f busy,0) := by
 have hs := k.small w
 have s1 := hs.fr
 have s2 := hs.st
 have l1 := w.len
 have hl := stepL_len h f busy
 have hs2 : Gr { frosts := f.frosts,stopped := Aen h f busy } := ⟨hs.fr,by simp only; omega⟩
 unfold Tv
 rw [iff_t' (AaE w hs) k,Option.bind_some,if_neg (by simp),if_pos (by omega),Hn (p := fun x : Aw => f.stopped.contains x.id || (wN h.tree f x.group && !busy.contains x.id)) (f := fun x : Aw => x.id) (r := Un h f) (fun k x s n hs => by
  unfold Aae Nf Qu
  rw [Sx (by omega),Option.bind_some,Rh w.tree (by omega),Option.bind_some,Ahw _ _ hb,Option.bind_some,if_pos hs]
  cases f.stopped.contains x.id <;> cases wN h.tree f x.group <;> cases busy.contains x.id <;> rfl) (fun _ => rfl) (by simp; omega),List.nil_append]
 unfold Un
 have : Gl h { frosts := f.frosts,stopped := Aen h f busy } = some (stepF h f busy) := Xk w hs2
 show Option.bind (Gl h { frosts := f.frosts,stopped := Aen h f busy }) _ = _
 rw [this]
 rfl
theorem minmax (c : Int) : Vk 0 (Mt c 1099511627776) = Mt (Vk c 0) 1099511627776 := by
 unfold Vk Mt
 split <;> split <;> split <;> (try split) <;> omega
theorem AdM (w : WfH h) (hs : Gr f) : Gr (Nb h f) := by
 have := w.tree.len2
 exact ⟨by simp only [Nb,List.length_map]; omega,hs.st⟩
theorem AgH (w : WfH h) (hs : Gr f) : My h f = some (Xq h f,0) := by
 have s1 := hs.fr
 have s2 := hs.st
 have l1 := w.len
 have l2 := w.tree.len2
 unfold My
 rw [Ij w,Option.bind_some,if_neg (by simp),if_pos (by omega),Hn (p := fun _ => true) (f := Td f) (r := Ra h f) (fun k x s n hs => by
  unfold Vt Na
  rw [Add (by omega),Option.bind_some,if_pos hs,if_pos hs,if_pos rfl,minmax,AgZ]
  unfold Td
  cases (frN f x.id).want <;> rfl) (fun _ => rfl) (by simp; omega),List.nil_append,List.filter_eq_self.mpr fun _ _ => rfl]
 unfold Ra
 have e1 : Ib h { frosts := h.tree.nodes.map (Td f),stopped := f.stopped } = some (Lx h (Nb h f)) := Adb w (AdM w hs)
 rw [e1,Option.bind_some]
 have hs3 : Gr { frosts := (Nb h f).frosts,stopped := Lx h (Nb h f) } := ⟨(AdM w hs).fr,by
  have := AgX h (Nb h f)
  simp only
  omega⟩
 have e2 : Gl h { frosts := h.tree.nodes.map (Td f),stopped := Lx h (Nb h f) } = some (Xq h f) := Xk w hs3
 rw [e2]
 rfl
theorem AaA (w : WfH h) (hs : Gr f) : Mf h f = some (Xq h f,0) := by
 have s1 := hs.fr
 have s2 := hs.st
 have l1 := w.len
 have l2 := w.tree.len2
 unfold Mf
 rw [AbF w,Option.bind_some,if_neg (by simp),if_pos (by omega),Hn (p := fun _ => true) (f := Td f) (r := Pv h f) (fun k x s n hs => by
  unfold Ub Mh
  rw [AcC (by omega),Option.bind_some,if_pos hs,if_pos hs,if_pos rfl,AgZ]
  unfold Td
  cases (frN f x.id).want <;> rfl) (fun _ => rfl) (by simp; omega),List.nil_append,List.filter_eq_self.mpr fun _ _ => rfl]
 unfold Pv
 obtain ⟨M,m1,m2,r,r1,r2,r3,r4,r5⟩ := sortU_ok (L := f.stopped) (by omega)
 rw [clone_int (by omega),Option.bind_some,m1,Option.bind_some,if_pos m2.symm,r1,Option.bind_some,if_pos r2.symm,if_pos (by omega)]
 have hlen : (r.2.take r.1).length ≤ 1000 := by
  rw [List.length_take]
  omega
 have hs2 : Gr { frosts := h.tree.nodes.map (Td f),stopped := r.2.take r.1 } := ⟨(AdM w hs).fr,hlen⟩
 have hk : (r.2.take r.1).filter (wT h { frosts := h.tree.nodes.map (Td f),stopped := r.2.take r.1 }) = Lx h (Nb h f) := by
  refine Aei (r4.filter _) (Ads w _) fun x => ?_
  rw [List.mem_filter,r5,Aax w]
  exact Iff.rfl
 apply Ok.eq
 refine Ok.bind (thaw_ok w hs2) fun q ⟨q1,q2,q3,q4,q5⟩ => ?_
 obtain ⟨t1,t2⟩ := tail_ok w hs2 q1 q2 q3 q4 q5
 refine Ok.guard (by rw [q2]) (Ok.guard q3.symm (Ok.guard (by rw [q3]; exact q4) ?_))
 rw [t1,Option.bind_some]
 have e : Hv h (Yg h { frosts := h.tree.nodes.map (Td f),stopped := r.2.take r.1 }) = Xq h f := by
  unfold Yg
  simp only
  rw [hk]
  rfl
 refine Ok.guard (by rw [q2]; simp [Hv,Yg]) (Ok.guard t2.symm (Ok.ret ?_))
 simp only
 rw [e]
end
end Go.Dm

/- Plain theory of freezers, part 3: what stays valid; made freezers. -/
namespace Go.Dm
section
variable {h : Aa} {f : Ac}
structure PreF (h : Aa) (f : Ac) : Prop where
 grp : f.frosts.map (·.group) = h.tree.nodes.map (·.id)
 chg : ∀ x ∈ f.frosts,0 ≤ x.changes ∧ x.changes ≤ 1099511627776
 asc : Asc f.stopped
 stp : ∀ k ∈ f.stopped,wT h f k = true
theorem PreF.renew (p : PreF h f) : FzOk h (Hv h f) := by
 have sw := Wj h f
 refine ⟨?_,?_,p.asc,fun k hk => ?_,?_⟩
 ·rw [← p.grp]
  unfold Hv
  rw [List.map_map]
  apply List.map_congr_left
  intro x _
  exact (Vp _ x).1
 ·intro y hy
  obtain ⟨x,hx,rfl⟩ := List.mem_map.mp hy
  have := p.chg x hx
  unfold Ng
  split
  ·simp only
   rw [Ax (by omega) (by omega)]
   unfold Mt
   split <;> omega
  ·exact this
 ·rw [wT_congr sw]
  exact p.stp k hk
 ·intro y hy
  obtain ⟨x,hx,rfl⟩ := List.mem_map.mp hy
  rw [(Vp _ x).2.2,(Vp _ x).1]
  exact (AhB sw rfl _).symm
theorem AfH (id : Int) (b : Bool) (x : Ai) : (Qq id b x).group = x.group ∧ (Qq id b x).changes = x.changes ∧ (Qq id b x).frozen = x.frozen ∧ (Qq id b x).want = if x.group == id then b else x.want := by
 unfold Qq
 split <;> exact ⟨rfl,rfl,rfl,rfl⟩
theorem set_fz (k : FzOk h f) (id : Int) (b : Bool) : FzOk h (setF h f id b) := by
 refine PreF.renew ⟨?_,?_,k.asc.filter _,fun x hx => (List.mem_filter.mp hx).2⟩
 ·rw [← k.grp]
  show (f.frosts.map (Qq id b)).map _ = _
  rw [List.map_map]
  apply List.map_congr_left
  intro x _
  exact (AfH id b x).1
 ·intro y hy
  obtain ⟨x,hx,rfl⟩ := List.mem_map.mp hy
  rw [(AfH id b x).2.1]
  exact k.chg x hx
theorem wT_task (w : WfH h) {x : Aw} (hx : x ∈ h.tasks) : wT h f x.id = wN h.tree f x.group := by
 unfold wT
 rw [Abq w.sorted hx]
 rfl
theorem step_fz (w : WfH h) (k : FzOk h f) (busy : List Int) : FzOk h (stepF h f busy) := by
 refine PreF.renew ⟨k.grp,k.chg,stepL_asc w f busy,fun i hi => ?_⟩
 obtain ⟨y,hy,e⟩ := List.mem_map.mp hi
 obtain ⟨h1,h2⟩ := List.mem_filter.mp hy
 rw [← e]
 show wT h f y.id = true
 simp only [Bool.or_eq_true,Bool.and_eq_true] at h2
 rcases h2 with h2 | h2
 ·exact k.stp y.id (by simpa using h2)
 ·rw [wT_task w h1]
  exact h2.1
theorem adj_fz (w : WfH h) (f : Ac) : FzOk h (Xq h f) := by
 refine PreF.renew ⟨?_,?_,Ads w _,fun i hi => ((Aax w).mp hi).2⟩
 ·show (h.tree.nodes.map (Td f)).map _ = _
  rw [List.map_map]
  rfl
 ·intro y hy
  obtain ⟨x,hx,rfl⟩ := List.mem_map.mp hy
  unfold Td
  simp only
  unfold Mt Vk
  split <;> split <;> omega
theorem frN_of (w : WfH h) (k : FzOk h f) {x : Ai} (hx : x ∈ f.frosts) : frN f x.group = x := by
 have hn := grp_nodup w k
 unfold frN
 have : f.frosts.find? (fun y => y.group == x.group) = some x := by
  rw [List.find?_eq_some_iff_append]
  obtain ⟨A,B,e⟩ := List.append_of_mem hx
  refine ⟨by simp,A,B,e,fun y hy => ?_⟩
  rw [e,List.map_append,List.map_cons,List.nodup_append] at hn
  have := hn.2.2 y.group (List.mem_map_of_mem hy) x.group (by simp)
  simpa using this
 rw [this]
 rfl
theorem Ajo (k : FzOk h f) : Hv h f = f := by
 unfold Hv
 have : f.frosts.map (fun x => Ng (rN h f x.group) x) = f.frosts.map id := by
  apply List.map_congr_left
  intro x hx
  unfold Ng
  rw [← k.frz x hx,if_neg (by simp)]
  rfl
 rw [this]
 simp
def Lw (f : Ac) : Prop := (frN f 1).want = false
theorem AhK {f f' : Ac} (e : Aci f f') (r : Lw f') : Lw f := by
 unfold Lw
 rw [e 1]
 exact r
theorem set_root (r : Lw f) {id : Int} (hid : id ≠ 1) (b : Bool) : Lw (setF h f id b) := by
 refine AhK (Wj h _) ?_
 unfold Lw frN at r ⊢
 show (((f.frosts.map (Qq id b)).find? (fun x => x.group == 1)).getD (zF 1)).want = false
 have e : (f.frosts.map (Qq id b)).find? (fun x => x.group == 1) = (f.frosts.find? (fun x => x.group == 1)).map (Qq id b) := by
  rw [List.find?_map]
  congr 2
  funext x
  simp only [Function.comp]
  rw [(AfH id b x).1]
 rw [e]
 cases hf : f.frosts.find? (fun x => x.group == 1) with
 | none => rfl
 | some x =>
  rw [hf] at r
  have hx : x.group = 1 := by simpa using List.find?_some hf
  simp only [Option.map_some,Option.getD_some] at r ⊢
  rw [(AfH id b x).2.2.2,if_neg (by simp; omega)]
  exact r
theorem step_root (r : Lw f) (busy : List Int) : Lw (stepF h f busy) := AhK (Wj h _) r
def Pe (h : Aa) : Ac := { frosts := h.tree.nodes.map (fun x => zF x.id),stopped := [] }
theorem frN_map {G : An → Ai} (w : WfH h) (hG : ∀ x ∈ h.tree.nodes,(G x).group = x.id) {S : List Int} {x : An} (hx : x ∈ h.tree.nodes) : frN { frosts := h.tree.nodes.map G,stopped := S } x.id = G x := by
 unfold frN
 have : (h.tree.nodes.map G).find? (fun y => y.group == x.id) = some (G x) := by
  rw [List.find?_eq_some_iff_append]
  obtain ⟨A,B,e⟩ := List.append_of_mem hx
  refine ⟨by simp [hG x hx],A.map G,B.map G,by rw [e]; simp,fun y hy => ?_⟩
  obtain ⟨z,hz,rfl⟩ := List.mem_map.mp hy
  have hn := Ahc w.tree
  rw [e,List.map_append,List.map_cons,List.nodup_append] at hn
  have hzm : z ∈ h.tree.nodes := by rw [e]; simp [hz]
  have := hn.2.2 z.id (List.mem_map_of_mem hz) x.id (by simp)
  rw [hG z hzm]
  simpa using this
 rw [this]
 rfl
theorem frN_zero (g : Int) : frN zFr g = zF g := rfl
theorem AhV (w : WfH h) : Xq h zFr = Pe h := by
 have e1 : (Nb h zFr).frosts = h.tree.nodes.map (fun x => zF x.id) := by
  apply List.map_congr_left
  intro x _
  unfold Td
  rw [frN_zero]
  rfl
 have e2 : Lx h (Nb h zFr) = [] := by
  unfold Lx
  rw [List.map_eq_nil_iff,List.filter_eq_nil_iff]
  intro x _
  simp [Nb,zFr]
 unfold Xq
 rw [e1,e2]
 show Hv h (Pe h) = Pe h
 have hw : ∀ id,wN h.tree (Pe h) id = false := by
  intro id
  unfold wN
  rw [List.any_eq_false]
  intro g _
  unfold frN Pe
  cases e : (h.tree.nodes.map (fun x => zF x.id)).find? (fun x => x.group == g) with
  | none => simp [zF]
  | some y =>
   obtain ⟨z,_,rfl⟩ := List.mem_map.mp (List.mem_of_find?_eq_some e)
   simp [zF]
 have hr : ∀ id,rN h (Pe h) id = false := fun id => by
  unfold rN
  rw [hw]
  rfl
 unfold Hv
 have : (Pe h).frosts.map (fun x => Ng (rN h (Pe h) x.group) x) = (Pe h).frosts := by
  show (h.tree.nodes.map (fun x => zF x.id)).map _ = h.tree.nodes.map (fun x => zF x.id)
  rw [List.map_map]
  apply List.map_congr_left
  intro x _
  simp only [Function.comp]
  rw [hr]
  rfl
 rw [this]
theorem fresh_fz (w : WfH h) : FzOk h (Pe h) := by
 rw [← AhV w]
 exact adj_fz w _
theorem AiH (w : WfH h) : Wo h = some (Pe h) := by
 unfold Wo
 have e : My h { frosts := [],stopped := [] } = some (Xq h zFr,0) := AgH (f := zFr) w ⟨by simp [zFr],by simp [zFr]⟩
 rw [e,Option.bind_some,AhV w]
theorem Tasks_ok {d : Ar} (hd : Bx d) (w : WfH h) (b : Bool) : Ok (Mm d h b) (fun r => Bx r.2 ∧ r.1.length ≤ h.tasks.length) := by
 have l1 := w.len
 unfold Mm
 refine Ok.guard (by omega) ?_
 refine Ok.range (fun pre s => Bx s.1 ∧ s.2.length ≤ pre.length) ⟨hd,by simp⟩ ?_ fun s ⟨h1,h2⟩ => Ok.ret ⟨h1,h2⟩
 rintro pre x post s n he ⟨h1,h2⟩ hn
 have hpl : pre.length + 1 ≤ h.tasks.length := by rw [he]; simp
 have hJ : ∀ y : Ar × Bool,Bx y.1 → Ok (Ip x s n y) (fun r => Bx r.2 ∧ r.1.length ≤ h.tasks.length) := by
  intro y hy
  unfold Ip Ko
  refine Ok.ite (fun _ => Ok.guard (by omega) (hn _ ⟨hy,by simp; omega⟩)) fun _ => hn _ ⟨hy,by simp; omega⟩
 unfold Rr
 refine Ok.ite (fun _ => hJ _ h1) fun _ => ?_
 exact Ok.bind (Eu h1 4 (by omega) (by omega)) fun r ⟨hd,_,_⟩ => hJ _ hd
theorem Ajq (w : WfH h) : Lw (Pe h) := by
 obtain ⟨x,r,e,hr⟩ := w.tree.root
 have hx : x ∈ h.tree.nodes := by rw [e]; simp
 unfold Lw
 have h1 : x.id = 1 := hr.id
 rw [← h1]
 show (frN { frosts := h.tree.nodes.map (fun x => zF x.id),stopped := [] } x.id).want = false
 rw [frN_map w (fun _ _ => rfl) hx]
 rfl
theorem Ajd {d : Ar} (hd : Bx d) (w : WfH h) {n : Int} (n0 : 0 ≤ n) (n1 : n ≤ 1000) : Ok (Km d h n) (fun r => FzOk h r.1 ∧ Lw r.1 ∧ Bx r.2) := by
 have l1 := w.len
 have l2 := w.tree.len2
 unfold Km
 rw [AiH w,Option.bind_some]
 have hw : w64 (n + 1) = n + 1 := Ax (by omega) (by omega)
 rw [hw]
 refine Ok.bind (Eu hd (n + 1) (by omega) (by omega)) fun r ⟨hd,a0,a1⟩ => ?_
 refine Ok.while (fun s => Bx s.1 ∧ FzOk h s.2.1 ∧ Lw s.2.1 ∧ 0 ≤ s.2.2 ∧ s.2.2 ≤ 1000) (fun s => s.2.2.toNat) ⟨hd,fresh_fz w,Ajq w,a0,by simp only; omega⟩ (by rw [Dc]; simp only; omega) ?_
 rintro ⟨d,f,i⟩ m ⟨hd,k,rw',i0,i1⟩ hm
 simp only at hd k rw' i0 i1
 unfold Pn
 simp only
 refine Ok.ite (fun c => ?_) fun _ => Ok.ret ⟨k,rw',hd⟩
 have ipos : i > 0 := by simpa using c
 have hi : w64 (i - 1) = i - 1 := Ax (by omega) (by omega)
 have hJ : ∀ (d : Ar) (g : Ac) (e : Int),Bx d → (e = 0 → FzOk h g ∧ Lw g) → Ok (Fy (d,f,i) m (d,g,e)) (fun r => FzOk h r.1 ∧ Lw r.1 ∧ Bx r.2) := by
  intro d g e hd hg
  unfold Fy Iw
  simp only
  rw [hi]
  refine Ok.ite (fun c => ?_) fun _ => ?_
  ·obtain ⟨g1,g2⟩ := hg (by simpa using c)
   exact hm _ ⟨hd,g1,g2,by simp only; omega,by simp only; omega⟩ (by simp only; omega)
  ·exact hm _ ⟨hd,k,rw',by simp only; omega,by simp only; omega⟩ (by simp only; omega)
 have hJ2 : ∀ (d0 d : Ar) (g : Ac) (e : Int),Bx d → (e = 0 → FzOk h g ∧ Lw g) → Ok (Fy (d0,f,i) m (d,g,e)) (fun r => FzOk h r.1 ∧ Lw r.1 ∧ Bx r.2) := fun d0 d g e hd hg => hJ d g e hd hg
 refine Ok.bind (Tasks_ok hd w false) fun r17 ⟨hd,hl⟩ => ?_
 rw [AhE w k (by omega),Option.bind_some]
 refine Ok.bind (Vw hd 2 (by omega)) fun r19 hd => ?_
 refine Ok.ite (fun _ => ?_) fun _ => hJ2 _ _ _ _ hd fun _ => ⟨step_fz w k _,step_root rw' _⟩
 refine Ok.bind (Acb hd _ (by omega)) fun g hd => Ok.bind (Eu hd 3 (by omega) (by omega)) fun r22 ⟨hd,_,_⟩ => ?_
 rw [AiN w k,Option.bind_some]
 refine hJ2 _ _ _ _ hd fun e => ?_
 cases hg : Gu h.tree g.1 with
 | false => simp [hg] at e
 | true =>
  cases h1 : (g.1 == 1) with
  | true => simp [hg,h1] at e
  | false =>
   simp only [Bool.not_true,Bool.false_eq_true,if_false]
   exact ⟨set_fz k _ _,set_root rw' (by simpa using h1) _⟩
end
theorem AhH : Rm = some true := by kernel_rfl
theorem Ail (c : Ai) : Aee c c = true := by simp [Aee]
theorem Afu {f : Ac} (hs : Gr f) : Ji f f = some true := by
 have s1 := hs.fr
 have s2 := hs.st
 unfold Ji
 have e1 : Xb f.frosts f.frosts = some true := by
  unfold Xb
  rw [if_neg (by simp),if_pos (by omega)]
  apply Ok.eq
  refine Ok.range (fun _ _ => True) trivial ?_ fun _ _ => Ok.ret rfl
  intro pre x post s n he _ hn
  unfold AaX
  have hi : pre.length < f.frosts.length := by
   rw [he]
   simp
  have : f.frosts.getD pre.length default = x := by
   rw [he]
   exact AbT
  rw [if_pos hi,this,Ail,if_neg (by simp)]
  exact hn () trivial
 have e2 : Qj f.stopped f.stopped = some true := by
  unfold Qj
  rw [if_neg (by simp),if_pos (by omega)]
  apply Ok.eq
  refine Ok.range (fun _ _ => True) trivial ?_ fun _ _ => Ok.ret rfl
  intro pre x post s n he _ hn
  unfold Vd
  have hi : pre.length < f.stopped.length := by
   rw [he]
   simp
  have : f.stopped.getD pre.length 0 = x := by
   rw [he]
   exact AbT
  rw [if_pos hi,this,if_neg (by simp)]
  exact hn () trivial
 rw [e1,Option.bind_some,if_pos rfl,e2]
 rfl
end Go.Dm

/- The law FreezeMoves, on the model. -/
namespace Go.Dm
theorem adj_self {h : Aa} {f : Ac} (w : WfH h) (k : FzOk h f) (r : Lw f) : Xq h f = f := by
 have e1 : (Nb h f).frosts = f.frosts := by
  show h.tree.nodes.map (Td f) = f.frosts
  have hl := k.len
  apply List.ext_getElem
  ·rw [List.length_map,hl]
  ·intro i h1 h2
   have hi : i < h.tree.nodes.length := by simpa using h1
   rw [List.getElem_map]
   have hg : f.frosts[i].group = h.tree.nodes[i].id := by
    have := congrArg (fun l => l[i]?) k.grp
    simp only [List.getElem?_map,List.getElem?_eq_getElem hi,List.getElem?_eq_getElem h2,Option.map_some,Option.some.injEq] at this
    exact this
   have hx := frN_of w k (List.getElem_mem h2)
   have hc := k.chg _ (List.getElem_mem h2)
   unfold Td
   rw [← hg,hx]
   have hch : Mt (Vk f.frosts[i].changes 0) 1099511627776 = f.frosts[i].changes := by
    unfold Mt Vk
    split <;> split <;> omega
   have hwn : (f.frosts[i].want && (f.frosts[i].group != 1)) = f.frosts[i].want := by
    by_cases h1 : f.frosts[i].group = 1
    ·have := r
     unfold Lw at this
     rw [← h1,hx] at this
     rw [this]
     rfl
    ·have : (f.frosts[i].group != 1) = true := by simpa using h1
     rw [this,Bool.and_true]
   rw [hch,hwn]
 have e0 : Nb h f = f := by
  have : Nb h f = { frosts := (Nb h f).frosts,stopped := f.stopped } := rfl
  rw [this,e1]
 have e2 : Lx h f = f.stopped := by
  refine Aei (Ads w f) k.asc fun x => ?_
  rw [Aax w]
  exact ⟨fun h => h.1,fun h => ⟨h,k.stp x h⟩⟩
 unfold Xq
 rw [e0,e2]
 exact Ajo k
theorem AgM (l : List Int) : Ok (Kq l) (· = true) := by
 have sane : ∀ {f : Bool → Option Bool},f true = some true → Ok (Option.bind Rm f) (· = true) := fun h => Ok.step AhH (Ok.of_eq h rfl)
 unfold Kq Yj
 refine Ok.step rfl ?_
 refine Ok.ite (fun _ => sane rfl) fun c => ?_
 have hl : l.length ≤ 600 := by
  have : ((l.length : Nat) : Int) ≤ 600 := by simpa using c
  omega
 refine Ok.step (a := { l := l,atF := 0 }) rfl ?_
 refine Ok.bind (Ais (dice_roll hl) 6 6 (by omega) (by omega) (by omega) (by omega)) fun r5 ⟨w,hd⟩ => ?_
 have l1 := w.len
 have l2 := w.tree.len2
 have l3 := w.tree.len1
 refine Ok.bind (Ajd hd w (n := 6) (by omega) (by omega)) fun r6 ⟨k,rt,hd⟩ => ?_
 have hs := k.small w
 have s1 := hs.fr
 have s2 := hs.st
 have hJ : ∀ y : Aa × Int,y.2 = 0 → WfH y.1 → Ok (Hd r5 r6 y) (· = true) := by
  rintro ⟨x,e⟩ he wx
  simp only at he wx
  subst he
  have lx := wx.len
  have kx := adj_fz wx r6.1
  have hsx := kx.small wx
  have sx1 := hsx.fr
  have sx2 := hsx.st
  unfold Hd
  simp only
  rw [AaA wx hs,Option.bind_some,if_neg (by simp),if_neg (by simp),iff_t' (Afm wx hsx) kx,Option.bind_some]
  unfold Hb
  rw [if_neg (by simp)]
  refine Ok.guard (by simp only; omega) ?_
  refine Ok.range (fun _ _ => True) trivial ?_ fun _ _ => ?_
  ·intro pre t post _ n he _ hn
   have ht : t ∈ x.tasks := by rw [he]; simp
   have hw : wN x.tree (Xq x r6.1) t.group = wN x.tree (Nb x r6.1) t.group := Aft (Wj x _) _
   have hst : (Xq x r6.1).stopped.contains t.id = (r6.1.stopped.contains t.id && wN x.tree (Nb x r6.1) t.group) := by
    rw [Bool.eq_iff_iff,Bool.and_eq_true,List.contains_iff_mem]
    show t.id ∈ Lx x (Nb x r6.1) ↔ _
    rw [Aax wx,wT_task wx ht,List.contains_iff_mem]
    exact Iff.rfl
   unfold Pr Iv
   simp only
   rw [Rp (by omega),Option.bind_some,Rp (by omega),Option.bind_some,Agh wx.tree (by omega),Option.bind_some,hst,hw]
   cases r6.1.stopped.contains t.id with
   | true => simpa using hn () trivial
   | false => simpa using hn () trivial
  ·unfold Pq
   rw [AaA w hs,Option.bind_some,if_pos (by simp),adj_self w k rt,Afu hs,Option.bind_some,if_pos rfl]
   exact sane rfl
 refine Ok.ite (fun c => ?_) fun _ => hJ _ rfl w
 have ht : 1 ≤ r5.1.tasks.length := by
  have : ((r5.1.tasks.length : Nat) : Int) > 0 := by simpa using c
  omega
 refine Ok.bind (Eu hd _ (by omega) (by omega)) fun a ⟨hd,a0,a1⟩ => Ok.guard ⟨a0,a1⟩ ?_
 refine Ok.bind (Eu hd _ (by omega) (by omega)) fun b ⟨hd,b0,b1⟩ => Ok.guard ⟨b0,b1⟩ ?_
 rw [Aeb w,Option.bind_some]
 have m1 : r5.1.tasks.getD (Int.toNat a.1) default ∈ r5.1.tasks := Zy (by omega)
 have m2 : r5.1.tree.nodes.getD (Int.toNat b.1) default ∈ r5.1.tree.nodes := Zy (by omega)
 have hp : (Aby r5.1 (r5.1.tasks.getD (Int.toNat a.1) default).id (r5.1.tree.nodes.getD (Int.toNat b.1) default).id).2 = 0 := by
  unfold Aby
  rw [Abq w.sorted m1,has_of m2]
  rfl
 exact hJ _ hp (AgW w rfl hp)
theorem AeZ (l : List Int) (_ : ∀ n ∈ l,-9223372036854775808 ≤ n ∧ n ≤ 9223372036854775807) : Kq l = some true := (AgM l).eq
end Go.Dm

/- Models of Go types and functions, printed by a program. -/
namespace Go.Dm
set_option linter.unusedVariables false

end Go.Dm


/- The data machine, part 26: a row is cut to the part that is still looked at. -/
namespace Go.Dm
def req1 (k n : Nat) : MV → List Prop
 | .own k' _ off len => bif Nat.beq k' k then [off + len ≤ n] else []
 | .eref k' _ i _ => bif Nat.beq k' k then [i < n] else []
 | .agg _ => [False]
 | .tup _ => [False]
 | .fn _ _ => [False]
 | _ => []
def reqs (k n : Nat) : List MV → List Prop
 | [] => []
 | x :: r => req1 k n x ++ reqs k n r
def reqV (k n : Nat) : MV → List Prop
 | .agg cs => reqs k n cs
 | .tup cs => reqs k n cs
 | .fn _ cs => reqs k n cs
 | x => req1 k n x
def reqS (k n : Nat) : List (Nat × MV) → List Prop
 | [] => []
 | (_,x) :: r => reqV k n x ++ reqS k n r
def reqB (k n : Nat) : Body → List Prop
 | .box cs => reqs k n cs
 | _ => []
def reqO (k n : Nat) : List (Nat × Obj) → List Prop
 | [] => []
 | (_,o) :: r => reqB k n o.body ++ reqO k n r
def cutB (n : Nat) : Body → Body
 | .row W _ f => .row W n f
 | b => b
def Tb (k n : Nat) : List (Nat × Obj) → List (Nat × Obj)
 | [] => []
 | (j,o) :: r => bif Nat.beq j k then (j,⟨o.gen,cutB n o.body⟩) :: Tb k n r else (j,o) :: Tb k n r
def rowN : Option Obj → Option Nat
 | some ⟨_,.row _ n _⟩ => some n
 | _ => none
theorem AbO (k n : Nat) : ∀ (l : List (Nat × Obj)) (j : Nat),assoc (Tb k n l) j = (assoc l j).map fun o => bif Nat.beq j k then ⟨o.gen,cutB n o.body⟩ else o
 | [],j => rfl
 | (i,o) :: r,j => by
  simp only [Tb]
  cases hb : Nat.beq i k with
  | true =>
   simp only [cond_true,assoc]
   cases hj : Nat.beq j i with
   | true =>
    have e1 := Nat.eq_of_beq_eq_true hj
    subst e1
    simp [hb]
   | false => simpa using AbO k n r j
  | false =>
   simp only [cond_false,assoc]
   cases hj : Nat.beq j i with
   | true =>
    have e1 := Nat.eq_of_beq_eq_true hj
    subst e1
    simp [hb]
   | false => simpa using AbO k n r j
theorem AhO {k n : Nat} : ∀ {l : List (Nat × MV)} {t : Nat} {x : MV},All (reqS k n l) → assoc l t = some x → All (reqV k n x)
 | [],t,x,_,h => by simp [assoc] at h
 | (i,y) :: r,t,x,ha,h => by
  simp only [reqS,All_append] at ha
  simp only [assoc] at h
  cases hb : Nat.beq t i with
  | true => simp [hb] at h; subst h; exact ha.1
  | false => simp [hb] at h; exact AhO ha.2 h
theorem Aii {k n : Nat} : ∀ {l : List (Nat × Obj)} {t : Nat} {x : Obj},All (reqO k n l) → assoc l t = some x → All (reqB k n x.body)
 | [],t,x,_,h => by simp [assoc] at h
 | (i,y) :: r,t,x,ha,h => by
  simp only [reqO,All_append] at ha
  simp only [assoc] at h
  cases hb : Nat.beq t i with
  | true => simp [hb] at h; subst h; exact ha.1
  | false => simp [hb] at h; exact Aii ha.2 h
theorem Zp {k n : Nat} : ∀ {l : List MV} {j : Nat} {x : MV},All (reqs k n l) → l[j]? = some x → All (req1 k n x)
 | [],j,x,_,h => by simp at h
 | y :: r,0,x,ha,h => by
  simp only [reqs,All_append] at ha
  simp at h
  subst h
  exact ha.1
 | y :: r,j + 1,x,ha,h => by
  simp only [reqs,All_append] at ha
  exact Zp ha.2 (by simpa using h)
section
variable {cx : Cx} {β : Cf} {a : Act} {w : World}
theorem Rel.cut {k n n0 : Nat} {sl : List (Nat × MV)} {ob : List (Nat × Obj)} (h : Rel cx β (Aj sl ob) a w) (hn : rowN (assoc ob k) = some n0) (hle : n ≤ n0) (hs : All (reqS k n sl)) (ho : All (reqO k n ob)) : Rel cx β (Aj sl (Tb k n ob)) a w := by
 obtain ⟨g0,W,f,hk⟩ : ∃ g0 W f,assoc ob k = some ⟨g0,.row W n0 f⟩ := by
  unfold rowN at hn
  split at hn
  ·rename_i g W m f he
   simp at hn
   subst hn
   exact ⟨g,W,f,he⟩
  ·simp at hn
 have hget : ∀ j o',assoc (Tb k n ob) j = some o' → ∃ o,assoc ob j = some o ∧ o'.gen = o.gen ∧ (o'.body.live ↔ o.body.live) ∧ (j ≠ k → o' = o) ∧ (j = k → o'.body = .row W n f ∧ o.body = .row W n0 f) := by
  intro j o' hj
  rw [AbO] at hj
  cases hq : assoc ob j with
  | none => simp [hq] at hj
  | some o =>
   simp only [hq,Option.map_some,Option.some.injEq] at hj
   subst hj
   cases hb : Nat.beq j k with
   | true =>
    have e := Nat.eq_of_beq_eq_true hb
    subst e
    rw [hk] at hq
    injection hq with hq
    subst hq
    exact ⟨_,rfl,rfl,by simp [cutB,Body.live],fun e => absurd rfl e,fun _ => ⟨rfl,rfl⟩⟩
   | false =>
    have e : j ≠ k := fun e => by rw [e,Ga] at hb; simp at hb
    exact ⟨o,rfl,rfl,Iff.rfl,fun _ => rfl,fun e' => absurd e' e⟩
 have hput : ∀ j o,assoc ob j = some o → ∃ o',assoc (Tb k n ob) j = some o' ∧ o'.gen = o.gen ∧ (j ≠ k → o' = o) ∧ (j = k → o'.body = .row W n f ∧ o.body = .row W n0 f) := by
  intro j o hj
  cases hq : assoc (Tb k n ob) j with
  | none => rw [AbO,hj] at hq; simp at hq
  | some o' =>
   obtain ⟨o1,h1,h2,_,h3,h4⟩ := hget j o' hq
   rw [hj] at h1
   injection h1 with h1
   subst h1
   exact ⟨o',rfl,h2,h3,h4⟩
 have hS : ∀ b,Ba cx.Av β (assoc ob) w b → Ba cx.Av β (assoc (Tb k n ob)) w b := by
  intro b hb
  refine ⟨hb.1,hb.2.1,fun j o' hj hl => ?_⟩
  obtain ⟨o,h1,_,h2,_⟩ := hget j o' hj
  exact hb.2.2 j o h1 (h2.1 hl)
 have known : ∀ (j g : Nat) (F F' : Loc → Body → Prop),Known β (assoc ob) j g F → (∀ l b,j ≠ k → F l b → F' l b) → (∀ l,j = k → F l (.row W n0 f) → F' l (.row W n f)) → Known β (assoc (Tb k n ob)) j g F' := by
  rintro j g F F' ⟨o,q1,q2,q3⟩ h1 h2
  obtain ⟨o',r1,r2,r3,r4⟩ := hput j o q1
  refine ⟨o',r1,by omega,fun e => ?_⟩
  have hF := q3 (by omega)
  by_cases e2 : j = k
  ·obtain ⟨e3,e4⟩ := r4 e2
   rw [e3]
   rw [e4] at hF
   exact h2 _ e2 hF
  ·rw [r3 e2]
   exact h1 _ _ e2 hF
 have one : ∀ (v : Value) (x : MV),RelV β (assoc ob) (Ba cx.Av β (assoc ob) w) w v x → All (req1 k n x) → RelV β (assoc (Tb k n ob)) (Ba cx.Av β (assoc (Tb k n ob)) w) w v x := by
  intro v x hr hq
  cases hr with
  | p _ _ h => exact .p _ _ (h.mono hS (fun _ _ => rfl))
  | own k' g off len base c h =>
   refine .own _ _ _ _ _ _ (known k' g _ _ h (fun l b _ hF => hF) fun l e hF => ?_)
   subst e
   simp only [req1,Ga,cond_true,All,and_true] at hq
   exact ⟨hq,hF.2⟩
  | ref k' g off b h => exact .ref _ _ _ _ (known k' g _ _ h (fun _ _ _ h => h) fun _ _ h => h)
  | eref k' g i off b oo h =>
   refine .eref _ _ _ _ _ _ (known k' g _ _ h (fun l b _ hF => hF) fun l e hF => ?_)
   subst e
   simp only [req1,Ga,cond_true,All,and_true] at hq
   exact ⟨hq,hF.2⟩
  | fptr cs b o hs c hc h1 hr => exact .fptr _ _ _ (hS _ hs) c hc h1 (fun j x hx => (hr j x hx).mono hS (fun _ _ => rfl))
  | mref k' g b h => exact .mref _ _ _ (known k' g _ _ h (fun _ _ _ h => h) fun _ _ h => h)
  | und => exact .und
  | any v => exact .any v
  | agg cs vs hl hr h1 => simp [req1,All] at hq
  | tup cs vs hl hr => simp [req1,All] at hq
  | fn f cs vs hl hr => simp [req1,All] at hq
 have all : ∀ (v : Value) (x : MV),RelV β (assoc ob) (Ba cx.Av β (assoc ob) w) w v x → All (reqV k n x) → RelV β (assoc (Tb k n ob)) (Ba cx.Av β (assoc (Tb k n ob)) w) w v x := by
  intro v x hr hq
  cases hr with
  | agg cs vs hl hr h1 => exact .agg _ _ hl (fun i y hy => one _ _ (hr i y hy) (Zp hq hy)) h1
  | tup cs vs hl hr => exact .tup _ _ hl (fun i y hy => one _ _ (hr i y hy) (Zp hq hy))
  | fn f cs vs hl hr => exact .fn _ _ _ hl (fun i y hy => one _ _ (hr i y hy) (Zp hq hy))
  | p _ _ h => exact one _ _ (.p _ _ h) hq
  | own i g off len base c h => exact one _ _ (.own _ _ _ _ _ _ h) hq
  | ref i g off b h => exact one _ _ (.ref _ _ _ _ h) hq
  | eref i g ix off b oo h => exact one _ _ (.eref _ _ _ _ _ _ h) hq
  | fptr cs b o hs c hc h1 hr => exact one _ _ (.fptr _ _ _ hs c hc h1 hr) hq
  | mref i g b h => exact one _ _ (.mref _ _ _ h) hq
  | und => exact one _ _ .und hq
  | any v => exact one _ _ (.any v) hq
 refine ⟨h.nd,h.sz,fun t => ?_,fun j o' hj => ?_,fun j o' b hj hl hb => ?_,fun j j' o o' b hj hj' hl hl' hne hb => ?_,h.kept,h.avo,h.avlt,h.mle,fun j o' hjm hj hg => ?_⟩
 ·have := h.sl t
  simp only [Aj] at this ⊢
  cases ht : assoc sl t with
  | none => exact .any _
  | some x =>
   rw [ht] at this
   exact all _ _ this (AhO hs ht)
 ·obtain ⟨o,h1,h2,_,h3,h4⟩ := hget j o' hj
  have hr := h.ob j o h1
  by_cases e : j = k
  ·obtain ⟨e1,e2⟩ := h4 e
   rw [e1]
   rw [e2] at hr
   rcases hr with ⟨q1,q2⟩ | ⟨b,oo,cap,cur,e',q0,q1,q2,q3,q4⟩
   ·exact .inl ⟨q1,by omega⟩
   ·exact .inr ⟨b,oo,cap,cur,e',q0,q1,q2,by omega,fun i hi => ⟨(q4 i (by omega)).1,(q4 i (by omega)).2.mono hS (fun _ _ => rfl)⟩⟩
  ·rw [h3 e]
   have hq := Aii ho h1
   cases hbd : o.body with
   | dead => trivial
   | row W' n' f' =>
    rw [hbd] at hr
    rcases hr with q | ⟨b,oo,cap,cur,e',q0,q1,q2,q3,q4⟩
    ·exact .inl q
    ·exact .inr ⟨b,oo,cap,cur,e',q0,q1,q2,q3,fun i hi => ⟨(q4 i hi).1,(q4 i hi).2.mono hS (fun _ _ => rfl)⟩⟩
   | mp z has f' =>
    rw [hbd] at hr
    obtain ⟨b,es,clock,q0,q1,q2,q3,q4⟩ := hr
    exact ⟨b,es,clock,q0,q1,q2,q3,fun i e n he hn => (q4 i e n he hn).mono hS (fun _ _ => rfl)⟩
   | box cs =>
    rw [hbd] at hr hq
    obtain ⟨b,cur,e',q0,q1,q2,q3⟩ := hr
    refine ⟨b,cur,e',q0,q1,q2,fun i x hx => ?_⟩
    obtain ⟨u,u1,u2,u3⟩ := q3 i x hx
    exact ⟨u,u1,u2,one _ _ u3 (Zp hq hx)⟩
 ·obtain ⟨o,h1,h2,h3,_⟩ := hget j o' hj
  exact h.blk j o b h1 (h3.1 hl) hb
 ·obtain ⟨q,h1,_,h3,_⟩ := hget j o hj
  obtain ⟨q',r1,_,r3,_⟩ := hget j' o' hj'
  exact h.inj j j' q q' b h1 r1 (h3.1 hl) (r3.1 hl') hne hb
 ·obtain ⟨o,h1,h2,_⟩ := hget j o' hj
  exact h.oloc j o hjm h1 (by omega)
def cutQ (k n : Nat) (sl : List (Nat × MV)) (ob : List (Nat × Obj)) : Option ((List (Nat × MV) × List (Nat × Obj)) × Prop) :=
 match rowN (assoc ob k) with
 | some n0 => some ((sl,Tb k n ob),n ≤ n0 ∧ All (reqS k n sl ++ reqO k n ob))
 | none => none
theorem Conv.cut (k n : Nat) {sl sl' : List (Nat × MV)} {ob ob' : List (Nat × Obj)} {q : Prop} (hq : q) (h : cutQ k n sl ob = some ((sl',ob'),q) := by kernel_rfl) : Conv cx (Aj sl ob) (Aj sl' ob') := by
 intro β a w hr
 unfold cutQ at h
 split at h
 ·rename_i n0 hn
  simp only [Option.some.injEq,Prod.mk.injEq] at h
  obtain ⟨⟨rfl,rfl⟩,rfl⟩ := h
  have h2 := All_append.1 hq.2
  exact ⟨β,hr.cut hn hq.1 h2.1 h2.2⟩
 ·simp at h
end
end Go.Dm

/- Types of the program. -/
namespace Go.Dm
open Go.Proofs
set_option linter.unusedVariables false
def Tt : Ty := [(3,⟨.int .i64,1,8,[.int .i64 0],false⟩),
  (4,⟨.bool,1,1,[.bool false],false⟩),
  (5,⟨.int .u8,1,1,[.int .u8 0],false⟩),
  (9,⟨.str,1,16,[.string ByteArray.empty],false⟩),
  (22,⟨.slice 3,1,24,[.slice none 0 0],false⟩),
  (23,⟨.slice 57,1,24,[.slice none 0 0],false⟩),
  (25,⟨.struct [(0,23),(1,3)],2,32,[.slice none 0 0,.int .i64 0],false⟩),
  (26,⟨.slice 40,1,24,[.slice none 0 0],false⟩),
  (28,⟨.struct [(0,25),(2,26),(3,3)],4,64,[.slice none 0 0,.int .i64 0,.slice none 0 0,.int .i64 0],false⟩),
  (40,⟨.struct [(0,3),(1,3),(2,3),(3,3)],4,32,[.int .i64 0,.int .i64 0,.int .i64 0,.int .i64 0],false⟩),
  (57,⟨.struct [(0,3),(1,3),(2,9),(3,3),(4,3),(5,3)],6,56,[.int .i64 0,.int .i64 0,.string ByteArray.empty,.int .i64 0,.int .i64 0,.int .i64 0],false⟩),
  (69,⟨.slice 79,1,24,[.slice none 0 0],false⟩),
  (71,⟨.struct [(0,69),(1,22)],2,48,[.slice none 0 0,.slice none 0 0],false⟩),
  (73,⟨.int .i64,1,8,[.int .i64 0],false⟩),
  (79,⟨.struct [(0,3),(1,4),(2,4),(3,3)],4,24,[.int .i64 0,.bool false,.bool false,.int .i64 0],true⟩),
  (111,⟨.struct [(0,22),(1,3)],2,32,[.slice none 0 0,.int .i64 0],false⟩),
  (140,⟨.ptr 143,1,8,[(.pointer none)],false⟩),
  (143,⟨.struct [(0,28),(4,71)],6,112,[.slice none 0 0,.int .i64 0,.slice none 0 0,.int .i64 0,.slice none 0 0,.slice none 0 0],false⟩),
  (165,⟨.slice 9,1,24,[.slice none 0 0],false⟩),
  (167,⟨.map 3 3,1,8,[(.map none)],false⟩),
  (175,⟨.int .u64,1,8,[.int .u64 0],false⟩),
  (192,⟨.int .i64,1,8,[.int .i64 0],false⟩),
  (201,⟨.int .u64,1,8,[.int .u64 0],false⟩),
  (208,⟨.slice 5,1,24,[.slice none 0 0],false⟩),
  (211,⟨.int .u64,1,8,[.int .u64 0],false⟩)]
theorem Tgood : Ll Tryz.prog Tt := tyGood_of ⟨⟨⟨by kernel_rfl,by kernel_rfl⟩,trivial⟩,⟨⟨by kernel_rfl,by kernel_rfl⟩,trivial⟩,⟨⟨by kernel_rfl,by kernel_rfl⟩,trivial⟩,⟨⟨by kernel_rfl,by kernel_rfl⟩,trivial⟩,⟨⟨by kernel_rfl,by kernel_rfl⟩,trivial⟩,⟨⟨by kernel_rfl,by kernel_rfl⟩,trivial⟩,⟨⟨by kernel_rfl,by kernel_rfl⟩,trivial⟩,⟨⟨by kernel_rfl,by kernel_rfl⟩,trivial⟩,⟨⟨by kernel_rfl,by kernel_rfl⟩,trivial⟩,⟨⟨by kernel_rfl,by kernel_rfl⟩,trivial⟩,⟨⟨by kernel_rfl,by kernel_rfl⟩,trivial⟩,⟨⟨by kernel_rfl,by kernel_rfl⟩,trivial⟩,⟨⟨by kernel_rfl,by kernel_rfl⟩,trivial⟩,⟨⟨by kernel_rfl,by kernel_rfl⟩,trivial⟩,⟨⟨by kernel_rfl,by kernel_rfl⟩,⟨by kernel_rfl,by kernel_rfl,by kernel_rfl⟩⟩,⟨⟨by kernel_rfl,by kernel_rfl⟩,trivial⟩,⟨⟨by kernel_rfl,by kernel_rfl⟩,trivial⟩,⟨⟨by kernel_rfl,by kernel_rfl⟩,trivial⟩,⟨⟨by kernel_rfl,by kernel_rfl⟩,trivial⟩,⟨⟨by kernel_rfl,by kernel_rfl⟩,trivial⟩,⟨⟨by kernel_rfl,by kernel_rfl⟩,trivial⟩,⟨⟨by kernel_rfl,by kernel_rfl⟩,trivial⟩,⟨⟨by kernel_rfl,by kernel_rfl⟩,trivial⟩,⟨⟨by kernel_rfl,by kernel_rfl⟩,trivial⟩,⟨⟨by kernel_rfl,by kernel_rfl⟩,trivial⟩,trivial⟩ (by kernel_rfl) (by kernel_rfl)
theorem mixed : Tryz.prog.follows .mixedOrders = true := by kernel_rfl
theorem RK {cx : Cx} {σ : St} {Q : Exit → St → Prop} {nt : Nat} (hnt : cx.nt = nt) {ops : Array Oper} {id : Nat} {draw : Bool} {r : List Code} (xs : List Orc) (sl : List (Nat × MV)) (ob : List (Nat × Obj))
    {q : Prop} (hq : q) (hQ : DW Tryz.prog cx r (Aj sl ob) Q) (h : Wb Tryz.prog Tt nt ops xs (Cl sl) (Cl ob) draw σ = some ((sl,ob),q) := by kernel_rfl) : DW Tryz.prog cx (.region id ops draw :: r) σ Q := DW.rk Tgood mixed hnt xs sl ob hq h hQ
theorem RD {cx : Cx} {Q : Exit → St → Prop} {nt : Nat} (hnt : cx.nt = nt) {ops : Array Oper} {id : Nat} {draw : Bool} {r : List Code} {sl0 : List (Nat × MV)} {ob0 : List (Nat × Obj)} (xs : List Orc) (ds : List Nat) (us : List (Nat × MV)) (dk : List Nat) (uo : List (Nat × Obj))
    {q : Prop} (hq : q) (hQ : DW Tryz.prog cx r (Aj (up ds us sl0) (up dk uo ob0)) Q) (h : Wb Tryz.prog Tt nt ops xs (Cl (up ds us sl0)) (Cl (up dk uo ob0)) draw (Aj sl0 ob0) = some ((up ds us sl0,up dk uo ob0),q) := by kernel_rfl) : DW Tryz.prog cx (.region id ops draw :: r) (Aj sl0 ob0) Q := DW.rd Tgood mixed hnt xs ds us dk uo hq hQ h
theorem SO {f : FuncId} {fn : Func} {c : Code} (hf : Tryz.prog.funcs[f]? = some fn) (hb : fn.body = some c)
    {args : List MV} {outs : List Body} {res : MV} {outs' news : List Body} (hlen : outs'.length = outs.length)
    (sl : List (Nat × MV)) (ob : List (Nat × Obj)) (hd : ∀ cx : Cx,cx.nt = fn.ntmps → DW Tryz.prog cx [c] (Aj sl ob) (finQ Tt fn.results.toList outs.length res (outs' ++ news)))
    (hname : fn.name ≠ "runtime.NumGoroutine" := by decide) (hle : Nat.ble args.length fn.ntmps = true := by rfl) (hm : Nat.ble outs.length 1000 = true := by rfl)
    (h1 : Zi (upN args.length 0) (upN outs.length 0) ⟨fun t => (args[t]?).getD .any,Bz outs⟩ = sl := by kernel_rfl)
    (h2 : Ue (upN outs.length 0) ⟨fun t => (args[t]?).getD .any,Bz outs⟩ = ob := by kernel_rfl) :
    Spec Tryz.prog f args outs res outs' news := spec_of Tgood hf hname hb hlen (Nat.le_of_ble_eq_true hle) (Nat.le_of_ble_eq_true hm) h1 h2 fun cx hnt => DW.start (hd cx hnt)
theorem RN {cx : Cx} {σ : St} {Q : Exit → St → Prop} {nt : Nat} (hnt : cx.nt = nt) {ops : Array Oper} {id : Nat} {draw : Bool} {r : List Code} (xs : List Orc) (sl : List (Nat × MV)) (ob : List (Nat × Obj))
    (ps : List (Nat × MV)) (qs : List (Nat × Body)) {q : Prop} (hq : q) (h : Wb Tryz.prog Tt nt ops xs (Cl sl) (Cl ob) draw σ = some ((Qe ps sl,Pf qs ob),q)) (hs : SP sl ps) (ho : OP ob qs)
    (hQ : DW Tryz.prog cx r (Aj sl ob) Q) : DW Tryz.prog cx (.region id ops draw :: r) σ Q := DW.rn Tgood mixed hnt xs sl ob ps qs hq h hs ho hQ
theorem RT {cx : Cx} {σ : St} {nt : Nat} (hnt : cx.nt = nt) {ops : Array Oper} {draw : Bool} {sl : List (Nat × MV)} {ob : List (Nat × Obj)} (xs : List Orc)
    (ps : List (Nat × MV)) {q : Prop} (hq : q) (h : Wb Tryz.prog Tt nt ops xs (Cl sl) (Cl ob) draw σ = some ((Qe ps sl,ob),q)) (hs : SP sl ps) : RegTo Tryz.prog cx ops draw σ sl ob := RegTo.rn Tgood mixed hnt xs ps hq h hs
end Go.Dm


/- Go functions compute their models, printed by a program. -/
namespace Go.Dm
open Go.Proofs
set_option linter.unusedVariables false
theorem Agv (p0 : List Int) (RES : Bool) (hm : Yj p0 = some RES) : Spec Tryz.prog 13 [.p (slI p0)] [] (pB RES) [] [] := by
 unfold Yj at hm
 refine SO Tryz.func13 rfl rfl [(0,.p (slI p0))] [] ?_
 intro cx hnt
 refine Sq (RK hnt (.no :: []) [(0,.p (slI p0))] [] tv ?_)
 refine Sq (RK hnt (nn 4 []) [(2,pB (decide (((p0.length : Nat) : Int) ≤ 600)))] [] tv ?_)
 obtain rfl := sj hm
 exact DW.ret (Ah [] [] (pB (decide (((p0.length : Nat) : Int) ≤ 600))))
abbrev o2 (ks : List Nat) (b : Bool) (RES : Bool) (sm : List Nat := []) : Orc := .call 13 ks b (pB RES) [] [] sm

abbrev c4e1 := ({ id := 1,parent := 0,name := ByteArray.empty,control := 0,kind := 0,owner := 0 } : An)
abbrev c4e2 := ({ id := 2,parent := 1,name := (bs [97]),control := 0,kind := 0,owner := 0 } : An)
abbrev c4e3 := ({ id := 3,parent := 2,name := (bs [98]),control := 0,kind := 0,owner := 0 } : An)
abbrev c4e4 := ({ id := 1,process := 1,group := 3,user := 0 } : Aw)
theorem Agx (RES : Aa) (hm : AbW = some RES) : Spec Tryz.prog 120 [] [] (.agg [ow 0 RES.tree.nodes.length,pI RES.tree.next,ow 1 RES.tasks.length,pI RES.next]) [] [Ak RES.tree.nodes,At RES.tasks] := by
 unfold AbW at hm
 refine SO Tryz.func120 rfl rfl [] [] ?_
 intro cx hnt
 refine Sq (RK hnt (.no :: []) [(0,rr 1000)] [(1000,bx [.p (.sl .nil 0 0 (fun _ => [])),pI 0,.p (.sl .nil 0 0 (fun _ => [])),pI 0])] tv ?_)
 refine Sq (RN hnt (nn 9 []) [(0,rr 1000)] [(1000,bx [ow 1032 [(c4e1),(c4e2),(c4e3)].length,pI 4,ow 1056 [(c4e4)].length,pI 2]),(1032,ob0 (Ak [(c4e1),(c4e2),(c4e3)])),(1056,ob0 (At [(c4e4)]))] [] [(1000,.box [ow 1032 3,pI 4,ow 1056 1,pI 2]),(1032,.row 6 3 (cut 6 [vi 1,vi 0,vs ByteArray.empty,vi 0,vi 0,vi 0,vi 2,vi 1,vs (bs [97]),vi 0,vi 0,vi 0,vi 3,vi 2,vs (bs [98]),vi 0,vi 0,vi 0])),(1056,.row 4 1 (cut 4 [vi 1,vi 1,vi 3,vi 0]))] tv (by kernel_rfl) .nil (.cons rfl (.box (.cons (MLe.ownLen (enc := Aq) (d := Bj) (f := (cut 6 [vi 1,vi 0,vs ByteArray.empty,vi 0,vi 0,vi 0,vi 2,vi 1,vs (bs [97]),vi 0,vi 0,vi 0,vi 3,vi 2,vs (bs [98]),vi 0,vi 0,vi 0])) (RowIs.lit (enc := Aq) (d := Bj) (n := 3) (f := (cut 6 [vi 1,vi 0,vs ByteArray.empty,vi 0,vi 0,vi 0,vi 2,vi 1,vs (bs [97]),vi 0,vi 0,vi 0,vi 3,vi 2,vs (bs [98]),vi 0,vi 0,vi 0])) [(c4e1),(c4e2),(c4e3)] rfl (fun | 0,_ => rfl | 1,_ => rfl | 2,_ => rfl | n + 3,h => absurd h (by omega)))) (.cons .rfl (.cons (MLe.ownLen (enc := Ay) (d := Bt) (f := (cut 4 [vi 1,vi 1,vi 3,vi 0])) (RowIs.lit (enc := Ay) (d := Bt) (n := 1) (f := (cut 4 [vi 1,vi 1,vi 3,vi 0])) [(c4e4)] rfl (fun | 0,_ => rfl | n + 1,h => absurd h (by omega)))) (.cons .rfl .nil))))) (.cons rfl (BLe.typed (RowIs.lit (enc := Aq) (d := Bj) (n := 3) (f := (cut 6 [vi 1,vi 0,vs ByteArray.empty,vi 0,vi 0,vi 0,vi 2,vi 1,vs (bs [97]),vi 0,vi 0,vi 0,vi 3,vi 2,vs (bs [98]),vi 0,vi 0,vi 0])) [(c4e1),(c4e2),(c4e3)] rfl (fun | 0,_ => rfl | 1,_ => rfl | 2,_ => rfl | n + 3,h => absurd h (by omega)))) (.cons rfl (BLe.typed (RowIs.lit (enc := Ay) (d := Bt) (n := 1) (f := (cut 4 [vi 1,vi 1,vi 3,vi 0])) [(c4e4)] rfl (fun | 0,_ => rfl | n + 1,h => absurd h (by omega)))) .nil))) ?_)
 obtain rfl := sj hm
 exact DW.ret (Ah [Ak [(c4e1),(c4e2),(c4e3)],At [(c4e4)]] [1032,1056] (.agg [ow 0 [(c4e1),(c4e2),(c4e3)].length,pI 4,ow 1 [(c4e4)].length,pI 2]))
abbrev o4 (ks : List Nat) (b : Bool) (RES : Aa) (sm : List Nat := []) : Orc := .call 120 ks b (.agg [ow 0 RES.tree.nodes.length,pI RES.tree.next,ow 1 RES.tasks.length,pI RES.next]) [] [Ak RES.tree.nodes,At RES.tasks] sm

theorem Ahq (p0 : An) (RES : Bool) (hm : Aav p0 = some RES) : Spec Tryz.prog 167 [.p (.agg (Aq p0))] [] (pB RES) [] [] := by
 unfold Aav at hm
 refine SO Tryz.func167 rfl rfl [(0,.p (.agg (Aq p0)))] [] ?_
 intro cx hnt
 refine Sq (RK hnt (nn 2 []) [(1,rr 1008)] [(1008,bx (pm (Aq p0)))] tv ?_)
 refine Sq (DW.regJ (sl2 := [(2,pB ((((p0.id == 1) && (p0.parent == 0)) && (Dr p0.name ByteArray.empty)) && (p0.kind == 0)))]) (ob2 := []) ?_ ?_)
 ·rcases bt (p0.id == 1) with h1 | h1
  ·rcases bt (p0.parent == 0) with h2 | h2
   ·rcases bt (Dr p0.name ByteArray.empty) with h3 | h3
    ·exact RT hnt (nn 7 (pT :: nn 4 (pT :: nn 4 (pT :: .no :: [])))) [(2,pB (p0.kind == 0))] (an4 h1 (an4 h2 (an4 h3 tv))) (by kernel_rfl) (.cons rfl (.of_eq (by rw [h1,h2,h3]; try rfl)) .nil)
    ·exact RT hnt (nn 7 (pT :: nn 4 (pT :: .no :: sk 3 (pF :: .no :: [])))) [(2,pB false)] (an4 h1 (an4 h2 (an4 h3 tv))) (by kernel_rfl) (.cons rfl (.of_eq (by rw [h1,h2,h3]; try rfl)) .nil)
   ·exact RT hnt (nn 7 (pT :: .no :: sk 3 (pF :: .no :: sk 3 (pF :: .no :: [])))) [(2,pB false)] (an4 h1 (an4 h2 (an4 ff tv))) (by kernel_rfl) (.cons rfl (.of_eq (by rw [h1,h2]; try rfl)) .nil)
  ·exact RT hnt (nn 4 (sk 3 (pF :: .no :: sk 3 (pF :: .no :: sk 3 (pF :: .no :: []))))) [(2,pB false)] (an4 h1 (an2 ff (an6 ff tv))) (by kernel_rfl) (.cons rfl (.of_eq (by rw [h1]; try rfl)) .nil)
 ·refine DW.ret ?_
  obtain rfl := sj hm
  exact Ah [] [] (pB ((((p0.id == 1) && (p0.parent == 0)) && (Dr p0.name ByteArray.empty)) && (p0.kind == 0)))
abbrev o8 (ks : List Nat) (b : Bool) (RES : Bool) (sm : List Nat := []) : Orc := .call 167 ks b (pB RES) [] [] sm

theorem AgB (p0 : Int) (RES : Bool) (hm : Yc p0 = some RES) : Spec Tryz.prog 236 [.p (vk .u8 p0)] [] (pB RES) [] [] := by
 unfold Yc at hm
 refine SO Tryz.func236 rfl rfl [(0,.p (vk .u8 p0))] [] ?_
 intro cx hnt
 refine Sq (RD hnt (.no :: []) [] [] [] [] tv ?_)
 refine Sq (DW.regJ (sl2 := [(2,pB ((((((decide (p0 ≥ 97)) && (decide (p0 ≤ 122))) || ((decide (p0 ≥ 65)) && (decide (p0 ≤ 90)))) || ((decide (p0 ≥ 48)) && (decide (p0 ≤ 57)))) || (p0 == 95)) || (p0 == 45)))]) (ob2 := []) ?_ ?_)
 ·rcases bt (decide (p0 ≥ 97)) with h1 | h1
  ·rcases bt (decide (p0 ≤ 122)) with h2 | h2
   ·exact RT hnt (nn 5 (pT :: .no :: sk 6 (pT :: .no :: sk 6 (pT :: .no :: sk 2 (pT :: .no :: sk 2 (pT :: .no :: [])))))) [(2,pB true)] (an3 h1 (an5 h2 (an5 tt (an6 tt tv)))) (by kernel_rfl) (.cons rfl (.of_eq (by rw [h1,h2]; try rfl)) .nil)
   ·rcases bt (decide (p0 ≥ 65)) with h3 | h3
    ·rcases bt (decide (p0 ≤ 90)) with h4 | h4
     ·exact RT hnt (nn 5 (pT :: nn 6 (pT :: pF :: .no :: sk 6 (pT :: .no :: sk 2 (pT :: .no :: sk 2 (pT :: .no :: [])))))) [(2,pB true)] (an3 h1 (an3 h2 (an2 h3 (an h2 (an h3 (an h2 (an5 h4 (an6 tt tv)))))))) (by kernel_rfl) (.cons rfl (.of_eq (by rw [h1,h2,h3,h4]; try rfl)) .nil)
     ·rcases bt (decide (p0 ≥ 48)) with h5 | h5
      ·rcases bt (decide (p0 ≤ 57)) with h6 | h6
       ·exact RT hnt (nn 5 (pT :: nn 6 (pT :: pF :: nn 6 (pT :: pF :: .no :: sk 2 (pT :: .no :: sk 2 (pT :: .no :: [])))))) [(2,pB true)] (an3 h1 (an3 h2 (an2 h3 (an h2 (an h3 (an h2 (an3 h4 (an2 h5 (an h4 (an h5 (an h4 (an3 h6 (an3 tt tv))))))))))))) (by kernel_rfl) (.cons rfl (.of_eq (by rw [h1,h2,h3,h4,h5,h6]; try rfl)) .nil)
       ·rcases bt (p0 == 95) with h7 | h7
        ·exact RT hnt (nn 5 (pT :: nn 6 (pT :: pF :: nn 6 (pT :: pF :: nn 3 (pF :: .no :: sk 2 (pT :: .no :: [])))))) [(2,pB true)] (an3 h1 (an3 h2 (an2 h3 (an h2 (an h3 (an h2 (an3 h4 (an2 h5 (an h4 (an h5 (an h4 (an3 h6 (an3 h7 tv))))))))))))) (by kernel_rfl) (.cons rfl (.of_eq (by rw [h1,h2,h3,h4,h5,h6,h7]; try rfl)) .nil)
        ·exact RT hnt (nn 5 (pT :: nn 6 (pT :: pF :: nn 6 (pT :: pF :: nn 3 (pF :: nn 3 (pF :: .no :: [])))))) [(2,pB (p0 == 45))] (an3 h1 (an3 h2 (an2 h3 (an h2 (an h3 (an h2 (an3 h4 (an2 h5 (an h4 (an h5 (an h4 (an3 h6 (an3 h7 tv))))))))))))) (by kernel_rfl) (.cons rfl (.of_eq (by rw [h1,h2,h3,h4,h5,h6,h7]; try rfl)) .nil)
      ·rcases bt (p0 == 95) with h8 | h8
       ·exact RT hnt (nn 5 (pT :: nn 6 (pT :: pF :: nn 4 (sk 2 (pF :: pF :: nn 3 (pF :: .no :: sk 2 (pT :: .no :: []))))))) [(2,pB true)] (an3 h1 (an3 h2 (an2 h3 (an h2 (an h3 (an h2 (an3 h4 (an2 h5 (an h4 (an h5 (an h4 (an3 ff (an3 h8 tv))))))))))))) (by kernel_rfl) (.cons rfl (.of_eq (by rw [h1,h2,h3,h4,h5,h8]; try rfl)) .nil)
       ·exact RT hnt (nn 5 (pT :: nn 6 (pT :: pF :: nn 4 (sk 2 (pF :: pF :: nn 3 (pF :: nn 3 (pF :: .no :: []))))))) [(2,pB (p0 == 45))] (an3 h1 (an3 h2 (an2 h3 (an h2 (an h3 (an h2 (an3 h4 (an2 h5 (an h4 (an h5 (an h4 (an3 ff (an3 h8 tv))))))))))))) (by kernel_rfl) (.cons rfl (.of_eq (by rw [h1,h2,h3,h4,h5,h8]; try rfl)) .nil)
    ·rcases bt (decide (p0 ≥ 48)) with h9 | h9
     ·rcases bt (decide (p0 ≤ 57)) with h10 | h10
      ·exact RT hnt (nn 5 (pT :: nn 4 (sk 2 (pF :: pF :: nn 6 (pT :: pF :: .no :: sk 2 (pT :: .no :: sk 2 (pT :: .no :: []))))))) [(2,pB true)] (an3 h1 (an3 h2 (an2 h3 (an h2 (an h3 (an h2 (an3 ff (an2 h9 (an ff (an h9 (an ff (an3 h10 (an3 tt tv))))))))))))) (by kernel_rfl) (.cons rfl (.of_eq (by rw [h1,h2,h3,h9,h10]; try rfl)) .nil)
      ·rcases bt (p0 == 95) with h11 | h11
       ·exact RT hnt (nn 5 (pT :: nn 4 (sk 2 (pF :: pF :: nn 6 (pT :: pF :: nn 3 (pF :: .no :: sk 2 (pT :: .no :: []))))))) [(2,pB true)] (an3 h1 (an3 h2 (an2 h3 (an h2 (an h3 (an h2 (an3 ff (an2 h9 (an ff (an h9 (an ff (an3 h10 (an3 h11 tv))))))))))))) (by kernel_rfl) (.cons rfl (.of_eq (by rw [h1,h2,h3,h9,h10,h11]; try rfl)) .nil)
       ·exact RT hnt (nn 5 (pT :: nn 4 (sk 2 (pF :: pF :: nn 6 (pT :: pF :: nn 3 (pF :: nn 3 (pF :: .no :: []))))))) [(2,pB (p0 == 45))] (an3 h1 (an3 h2 (an2 h3 (an h2 (an h3 (an h2 (an3 ff (an2 h9 (an ff (an h9 (an ff (an3 h10 (an3 h11 tv))))))))))))) (by kernel_rfl) (.cons rfl (.of_eq (by rw [h1,h2,h3,h9,h10,h11]; try rfl)) .nil)
     ·rcases bt (p0 == 95) with h12 | h12
      ·exact RT hnt (nn 5 (pT :: nn 4 (sk 2 (pF :: pF :: nn 4 (sk 2 (pF :: pF :: nn 3 (pF :: .no :: sk 2 (pT :: .no :: [])))))))) [(2,pB true)] (an3 h1 (an3 h2 (an2 h3 (an h2 (an h3 (an h2 (an3 ff (an2 h9 (an ff (an h9 (an4 ff (an3 h12 tv)))))))))))) (by kernel_rfl) (.cons rfl (.of_eq (by rw [h1,h2,h3,h9,h12]; try rfl)) .nil)
      ·exact RT hnt (nn 5 (pT :: nn 4 (sk 2 (pF :: pF :: nn 4 (sk 2 (pF :: pF :: nn 3 (pF :: nn 3 (pF :: .no :: [])))))))) [(2,pB (p0 == 45))] (an3 h1 (an3 h2 (an2 h3 (an h2 (an h3 (an h2 (an3 ff (an2 h9 (an ff (an h9 (an4 ff (an3 h12 tv)))))))))))) (by kernel_rfl) (.cons rfl (.of_eq (by rw [h1,h2,h3,h9,h12]; try rfl)) .nil)
  ·rcases bt (decide (p0 ≥ 65)) with h13 | h13
   ·rcases bt (decide (p0 ≤ 90)) with h14 | h14
    ·exact RT hnt (nn 3 (sk 2 (pF :: nn 6 (pT :: pF :: .no :: sk 6 (pT :: .no :: sk 2 (pT :: .no :: sk 2 (pT :: .no :: []))))))) [(2,pB true)] (an3 h1 (an3 ff (an2 h13 (an ff (an h13 (an ff (an5 h14 (an6 tt tv)))))))) (by kernel_rfl) (.cons rfl (.of_eq (by rw [h1,h13,h14]; try rfl)) .nil)
    ·rcases bt (decide (p0 ≥ 48)) with h15 | h15
     ·rcases bt (decide (p0 ≤ 57)) with h16 | h16
      ·exact RT hnt (nn 3 (sk 2 (pF :: nn 6 (pT :: pF :: nn 6 (pT :: pF :: .no :: sk 2 (pT :: .no :: sk 2 (pT :: .no :: []))))))) [(2,pB true)] (an3 h1 (an3 ff (an2 h13 (an ff (an h13 (an ff (an3 h14 (an2 h15 (an h14 (an h15 (an h14 (an3 h16 (an3 tt tv))))))))))))) (by kernel_rfl) (.cons rfl (.of_eq (by rw [h1,h13,h14,h15,h16]; try rfl)) .nil)
      ·rcases bt (p0 == 95) with h17 | h17
       ·exact RT hnt (nn 3 (sk 2 (pF :: nn 6 (pT :: pF :: nn 6 (pT :: pF :: nn 3 (pF :: .no :: sk 2 (pT :: .no :: []))))))) [(2,pB true)] (an3 h1 (an3 ff (an2 h13 (an ff (an h13 (an ff (an3 h14 (an2 h15 (an h14 (an h15 (an h14 (an3 h16 (an3 h17 tv))))))))))))) (by kernel_rfl) (.cons rfl (.of_eq (by rw [h1,h13,h14,h15,h16,h17]; try rfl)) .nil)
       ·exact RT hnt (nn 3 (sk 2 (pF :: nn 6 (pT :: pF :: nn 6 (pT :: pF :: nn 3 (pF :: nn 3 (pF :: .no :: []))))))) [(2,pB (p0 == 45))] (an3 h1 (an3 ff (an2 h13 (an ff (an h13 (an ff (an3 h14 (an2 h15 (an h14 (an h15 (an h14 (an3 h16 (an3 h17 tv))))))))))))) (by kernel_rfl) (.cons rfl (.of_eq (by rw [h1,h13,h14,h15,h16,h17]; try rfl)) .nil)
     ·rcases bt (p0 == 95) with h18 | h18
      ·exact RT hnt (nn 3 (sk 2 (pF :: nn 6 (pT :: pF :: nn 4 (sk 2 (pF :: pF :: nn 3 (pF :: .no :: sk 2 (pT :: .no :: [])))))))) [(2,pB true)] (an3 h1 (an3 ff (an2 h13 (an ff (an h13 (an ff (an3 h14 (an2 h15 (an h14 (an h15 (an h14 (an3 ff (an3 h18 tv))))))))))))) (by kernel_rfl) (.cons rfl (.of_eq (by rw [h1,h13,h14,h15,h18]; try rfl)) .nil)
      ·exact RT hnt (nn 3 (sk 2 (pF :: nn 6 (pT :: pF :: nn 4 (sk 2 (pF :: pF :: nn 3 (pF :: nn 3 (pF :: .no :: [])))))))) [(2,pB (p0 == 45))] (an3 h1 (an3 ff (an2 h13 (an ff (an h13 (an ff (an3 h14 (an2 h15 (an h14 (an h15 (an h14 (an3 ff (an3 h18 tv))))))))))))) (by kernel_rfl) (.cons rfl (.of_eq (by rw [h1,h13,h14,h15,h18]; try rfl)) .nil)
   ·rcases bt (decide (p0 ≥ 48)) with h19 | h19
    ·rcases bt (decide (p0 ≤ 57)) with h20 | h20
     ·exact RT hnt (nn 3 (sk 2 (pF :: nn 4 (sk 2 (pF :: pF :: nn 6 (pT :: pF :: .no :: sk 2 (pT :: .no :: sk 2 (pT :: .no :: [])))))))) [(2,pB true)] (an3 h1 (an3 ff (an2 h13 (an ff (an h13 (an4 ff (an2 h19 (an ff (an h19 (an ff (an3 h20 (an3 tt tv)))))))))))) (by kernel_rfl) (.cons rfl (.of_eq (by rw [h1,h13,h19,h20]; try rfl)) .nil)
     ·rcases bt (p0 == 95) with h21 | h21
      ·exact RT hnt (nn 3 (sk 2 (pF :: nn 4 (sk 2 (pF :: pF :: nn 6 (pT :: pF :: nn 3 (pF :: .no :: sk 2 (pT :: .no :: [])))))))) [(2,pB true)] (an3 h1 (an3 ff (an2 h13 (an ff (an h13 (an4 ff (an2 h19 (an ff (an h19 (an ff (an3 h20 (an3 h21 tv)))))))))))) (by kernel_rfl) (.cons rfl (.of_eq (by rw [h1,h13,h19,h20,h21]; try rfl)) .nil)
      ·exact RT hnt (nn 3 (sk 2 (pF :: nn 4 (sk 2 (pF :: pF :: nn 6 (pT :: pF :: nn 3 (pF :: nn 3 (pF :: .no :: [])))))))) [(2,pB (p0 == 45))] (an3 h1 (an3 ff (an2 h13 (an ff (an h13 (an4 ff (an2 h19 (an ff (an h19 (an ff (an3 h20 (an3 h21 tv)))))))))))) (by kernel_rfl) (.cons rfl (.of_eq (by rw [h1,h13,h19,h20,h21]; try rfl)) .nil)
    ·rcases bt (p0 == 95) with h22 | h22
     ·exact RT hnt (nn 3 (sk 2 (pF :: nn 4 (sk 2 (pF :: pF :: nn 4 (sk 2 (pF :: pF :: nn 3 (pF :: .no :: sk 2 (pT :: .no :: []))))))))) [(2,pB true)] (an3 h1 (an3 ff (an2 h13 (an ff (an h13 (an4 ff (an2 h19 (an ff (an h19 (an4 ff (an3 h22 tv))))))))))) (by kernel_rfl) (.cons rfl (.of_eq (by rw [h1,h13,h19,h22]; try rfl)) .nil)
     ·exact RT hnt (nn 3 (sk 2 (pF :: nn 4 (sk 2 (pF :: pF :: nn 4 (sk 2 (pF :: pF :: nn 3 (pF :: nn 3 (pF :: .no :: []))))))))) [(2,pB (p0 == 45))] (an3 h1 (an3 ff (an2 h13 (an ff (an h13 (an4 ff (an2 h19 (an ff (an h19 (an4 ff (an3 h22 tv))))))))))) (by kernel_rfl) (.cons rfl (.of_eq (by rw [h1,h13,h19,h22]; try rfl)) .nil)
 ·refine DW.ret ?_
  obtain rfl := sj hm
  exact Ah [] [] (pB ((((((decide (p0 ≥ 97)) && (decide (p0 ≤ 122))) || ((decide (p0 ≥ 65)) && (decide (p0 ≤ 90)))) || ((decide (p0 ≥ 48)) && (decide (p0 ≤ 57)))) || (p0 == 95)) || (p0 == 45)))
abbrev o11 (ks : List Nat) (b : Bool) (RES : Bool) (sm : List Nat := []) : Orc := .call 236 ks b (pB RES) [] [] sm

theorem Vh (p0 : ByteArray) (RES : Bool) (hm : Tz p0 = some RES) : Spec Tryz.prog 210 [pS p0] [] (pB RES) [] [] := by
 unfold Tz at hm
 refine SO Tryz.func210 rfl rfl [(0,pS p0)] [] ?_
 intro cx hnt
 refine Sq (RK hnt (.no :: []) [(0,pS p0)] [] tv ?_)
 refine Sq (Sq (RN hnt (nn 4 []) [(0,pS p0),(6,.p (Ps 1 (encK .u8) 0 (Ie p0))),(7,pI ((p0.size : Nat) : Int)),(8,pI 0)] [] [(6,.p (.sl .unk 1 p0.size (AbA p0)))] [] tv (by kernel_rfl) (.cons rfl (MLe.typed RowIs.bytes) .nil) .nil ?_))
 refine Bk ?_
 obtain ⟨hc1,hm⟩ := go1 hm
 refine DW.rangeO (fun (k1 : Nat) (s1 : Unit) => Aj [(0,pS p0),(6,.p (Ps 1 (encK .u8) 0 (Ie p0))),(7,pI ((p0.size : Nat) : Int)),(8,pI ((k1 : Nat) : Int))] []) 0 hm .refl ?_
 intro k1 s1 n1 hk1 hs1 he1
 refine Sq (RD hnt (.no :: []) [] [(9,pB (decide (((k1 : Nat) : Int) < ((p0.size : Nat) : Int))))] [] [] tv ?_)
 refine Sq (Cb (decide (((k1 : Nat) : Int) < ((p0.size : Nat) : Int))) ?_ ?_)
 ·intro h15
  have hlt1 : k1 < (Ie p0).length := by have := of_decide_eq_true h15; have := Pa p0; omega
  have hm := hs1 hlt1
  unfold Aag at hm
  refine Sk ?_
  refine Sq (Bk ?_)
  refine Sq (RD hnt (nn 3 []) [9] [(4,.p (vk .u8 ((Ie p0).getD k1 0)))] [] [] (an (nn0 k1) (an (ltc hlt1) tv)) ?_)
  obtain ⟨r16,hr16,hm⟩ := bo hm
  refine Sq (RD hnt (.no :: o11 [] true r16 :: .no :: []) [4] [(14,pB (!r16))] [] [] (an (AgB ((Ie p0).getD k1 0) r16 hr16) tv) ?_)
  refine Ae hm ?_ ?_
  ·intro h17 hm
   refine Sq (RK hnt (.no :: []) [(2,pB false)] [] tv ?_)
   obtain rfl := sj hm
   exact DW.ret (Ah [] [] (pB false))
  ·intro h17 hm
   refine Sk ?_
   refine DW.done ?_
   show DW _ _ _ _ _
   refine RD hnt (nn 2 []) [14] [(8,pI (w64 (((k1 : Nat) : Int) + 1)))] [] [] tv ?_
   exact jD () ⟨hlt1,hm⟩ (Conv.tp [(8,pI (w64 (((k1 : Nat) : Int) + 1)))] [] (by kernel_rfl) (.cons rfl (.of_eq (congrArg pI (Bl hlt1 hc1))) .nil) .nil)
 ·intro h15
  have hge1 : ¬ k1 < (Ie p0).length := by have := of_decide_eq_false h15; have := Pa p0; omega
  have hm := he1 hge1
  unfold Zl at hm
  refine DW.exit ?_
  refine Ao ?_
  refine Au ?_
  refine Am ?_
  show DW _ _ _ _ _
  refine Sq ?_
  refine Jn (ι := Bool) (fun (y3 : Bool) => Aj [(2,pB y3)] []) (fun y3 => Nl y3 = some RES) ?_ ?_
  ·intro y3 hm
   unfold Nl at hm
   obtain rfl := sj hm
   exact DW.ret (Ah [] [] (pB y3))
  ·rcases bt (!(Dr p0 ByteArray.empty)) with h18 | h18
   ·replace hm := Bf h18 hm
    rcases bt (decide (((p0.size : Nat) : Int) ≤ 32)) with h19 | h19
    ·replace hm := Bf h19 hm
     obtain ⟨g20,hm⟩ := go1 hm
     refine RK hnt (nn 6 (pT :: nn 4 (pT :: .no :: []))) [(2,pB ((((Bp p0 0) : Nat) : Int) != 45))] [] (an4 h18 (an2 h19 (an (nn0 0) (an (ltc g20) (an2 h19 tv))))) ?_
     exact jD ((((Bp p0 0) : Nat) : Int) != 45) hm .refl
    ·replace hm := Be h19 hm
     refine RK hnt (nn 6 (pT :: .no :: sk 3 (pF :: .no :: []))) [(2,pB false)] [] (an4 h18 (an4 h19 tv)) ?_
     exact jD false hm .refl
   ·replace hm := Be h18 hm
    refine RK hnt (nn 3 (sk 3 (pF :: .no :: sk 3 (pF :: .no :: [])))) [(2,pB false)] [] (an4 h18 (an4 ff tv)) ?_
    exact jD false hm .refl
abbrev o10 (ks : List Nat) (b : Bool) (RES : Bool) (sm : List Nat := []) : Orc := .call 210 ks b (pB RES) [] [] sm

abbrev c9e1 (p0 : List An) (k1 : Nat) := (p0.getD k1 (default : An))
abbrev c9e2 (p1 : An) : Nat × Obj := (1024,bx (pm (Aq p1)))
abbrev c9e3 (p0 : List An) : Nat × MV := (35,pI ((p0.length : Nat) : Int))
theorem AhA (p0 : List An) (p1 : An) (RES : Bool) (hm : Wv p0 p1 = some RES) : Spec Tryz.prog 168 [.p (Az p0),.p (.agg (Aq p1))] [] (pB RES) [] [] := by
 unfold Wv at hm
 refine SO Tryz.func168 rfl rfl [(0,.p (Az p0)),(1,.p (.agg (Aq p1)))] [] ?_
 intro cx hnt
 refine Sq (RD hnt (nn 2 []) [1] [(3,rr 1024)] [] [(c9e2 p1)] tv ?_)
 obtain ⟨g1,hm⟩ := go1 hm
 refine Sq (Sq ?_)
 refine Jn (ι := Bool) (fun (y1 : Bool) => Aj [(0,.p (Az p0)),(3,rr 1024),(33,pB y1)] [(c9e2 p1)]) (fun y1 => (Jo p0 p1) y1 = some RES) ?_ ?_
 ·intro y1 hm
  unfold Jo at hm
  refine Ae hm ?_ ?_
  ·intro h6 hm
   refine Sq (RK hnt (.no :: []) [(4,pB false)] [] tv ?_)
   obtain rfl := sj hm
   exact DW.ret (Ah [] [] (pB false))
  ·intro h6 hm
   refine Sk ?_
   refine Sq (RD hnt (.no :: []) [33] [(5,pB false)] [] [] tv ?_)
   refine Sq (Sq (RD hnt (nn 3 []) [0] [(34,.p (Az p0)),(c9e3 p0),(36,pI 0)] [] [] tv ?_))
   refine Bk ?_
   obtain ⟨hc1,hm⟩ := go1 hm
   refine DW.rangeO (fun (k1 : Nat) (s1 : Bool) => Aj [(3,rr 1024),(5,pB s1),(34,.p (Az p0)),(c9e3 p0),(36,pI ((k1 : Nat) : Int))] [(c9e2 p1)]) Bj hm Conv.eqK ?_
   intro k1 s1 n1 hk1 hs1 he1
   refine Sq (RD hnt (.no :: []) [] [(37,pB (decide (((k1 : Nat) : Int) < ((p0.length : Nat) : Int))))] [] [] tv ?_)
   refine Sq (Cb (decide (((k1 : Nat) : Int) < ((p0.length : Nat) : Int))) ?_ ?_)
   ·intro h16
    have hlt1 : k1 < p0.length := by have := of_decide_eq_true h16; omega
    have hm := hs1 hlt1
    unfold Abg at hm
    refine Sk ?_
    refine Sq (Bk ?_)
    refine Sq (RD hnt (nn 4 []) [37] [(7,rr 1056)] [] [(1056,bx (pm (Aq (c9e1 p0 k1))))] (an (nn0 k1) (an (ltc hlt1) tv)) ?_)
    refine Sq (DW.regJ (sl2 := [(3,rr 1024),(5,pB (s1 || ((c9e1 p0 k1).id == p1.parent))),(7,rr 1056),(34,.p (Az p0)),(c9e3 p0),(36,pI ((k1 : Nat) : Int))]) (ob2 := [(c9e2 p1),(1056,bx (pm (Aq (c9e1 p0 k1))))]) ?_ ?_)
    ·rcases bt s1 with h17 | h17
     ·exact RT hnt (nn 2 (sk 5 (pT :: .no :: []))) [(5,pB true)] (an6 h17 tv) (by kernel_rfl) (.cons rfl (.of_eq (by rw [h17]; try rfl)) .nil)
     ·exact RT hnt (nn 7 (pF :: .no :: [])) [(5,pB ((c9e1 p0 k1).id == p1.parent))] (an6 h17 tv) (by kernel_rfl) (.cons rfl (.of_eq (by rw [h17]; try rfl)) .nil)
    ·refine Sq (DW.regJ (sl2 := [(3,rr 1024),(5,pB (s1 || ((c9e1 p0 k1).id == p1.parent))),(34,.p (Az p0)),(c9e3 p0),(36,pI ((k1 : Nat) : Int)),(59,pB (((c9e1 p0 k1).parent == p1.parent) && (Dr (c9e1 p0 k1).name p1.name)))]) (ob2 := [(c9e2 p1)]) ?_ ?_)
     ·rcases bt ((c9e1 p0 k1).parent == p1.parent) with h18 | h18
      ·exact RT hnt (nn 11 (pT :: [])) [(59,pB (Dr (c9e1 p0 k1).name p1.name))] (an6 h18 tv) (by kernel_rfl) (.cons rfl (.of_eq (by rw [h18]; try rfl)) .nil)
      ·exact RT hnt (nn 6 (sk 5 (pF :: []))) [(59,pB false)] (an6 h18 tv) (by kernel_rfl) (.cons rfl (.of_eq (by rw [h18]; try rfl)) .nil)
     ·refine Ae hm ?_ ?_
      ·intro h19 hm
       refine Sq (RK hnt (.no :: []) [(4,pB false)] [] tv ?_)
       obtain rfl := sj hm
       exact DW.ret (Ah [] [] (pB false))
      ·intro h19 hm
       refine Sk ?_
       refine DW.done ?_
       show DW _ _ _ _ _
       refine RD hnt (nn 2 []) [59] [(36,pI (w64 (((k1 : Nat) : Int) + 1)))] [] [] tv ?_
       exact jD (s1 || ((c9e1 p0 k1).id == p1.parent)) ⟨hlt1,hm⟩ (Conv.tp [(36,pI (w64 (((k1 : Nat) : Int) + 1)))] [] (by kernel_rfl) (.cons rfl (.of_eq (congrArg pI (Bl hlt1 hc1))) .nil) .nil)
   ·intro h16
    have hge1 : ¬ k1 < p0.length := by have := of_decide_eq_false h16; omega
    have hm := he1 hge1
    unfold AeV at hm
    refine DW.exit ?_
    refine Ao ?_
    refine Au ?_
    refine Am ?_
    show DW _ _ _ _ _
    refine Sq (RK hnt (nn 2 []) [(4,pB s1)] [] tv ?_)
    obtain rfl := sj hm
    exact DW.ret (Ah [] [] (pB s1))
 ·rcases bt (decide (p1.id ≤ (p0.getD (Int.toNat (w64 (((p0.length : Nat) : Int) - 1))) Bj).id)) with h2 | h2
  ·replace hm := Bf h2 hm
   refine RD hnt (nn 11 (sk 4 (pT :: .no :: sk 8 (pT :: [])))) [] [(33,pB true)] [] [] (an g1.1 (an g1.2 (an5 h2 (an6 tt tv)))) ?_
   exact jD true hm Conv.eqK
  ·replace hm := Be h2 hm
   obtain ⟨r3,hr3,hm⟩ := bo hm
   rcases bt (!r3) with h4 | h4
   ·replace hm := Bf h4 hm
    refine RD hnt (nn 13 (o10 [] true r3 :: .no :: pF :: .no :: sk 8 (pT :: []))) [] [(33,pB true)] [] [] (an g1.1 (an g1.2 (an3 h2 (an (Vh p1.name r3 hr3) (an2 h2 (an6 h4 tv)))))) ?_
    exact jD true hm Conv.eqK
   ·replace hm := Be h4 hm
    rcases bt (p1.kind != 0) with h5 | h5
    ·replace hm := Bf h5 hm
     refine RD hnt (nn 13 (o10 [] true r3 :: .no :: pF :: nn 8 (pT :: pF :: []))) [] [(33,pB (p1.kind != 1))] [] [] (an g1.1 (an g1.2 (an3 h2 (an (Vh p1.name r3 hr3) (an2 h2 (an4 h4 (an3 h5 (an h4 (an h5 (an h4 tv)))))))))) ?_
     exact jD (p1.kind != 1) hm Conv.eqK
    ·replace hm := Be h5 hm
     refine RD hnt (nn 13 (o10 [] true r3 :: .no :: pF :: nn 5 (sk 3 (pF :: pF :: [])))) [] [(33,pB false)] [] [] (an g1.1 (an g1.2 (an3 h2 (an (Vh p1.name r3 hr3) (an2 h2 (an4 h4 (an3 h5 (an h4 (an h5 (an h4 tv)))))))))) ?_
     exact jD false hm Conv.eqK
abbrev o9 (ks : List Nat) (b : Bool) (RES : Bool) (sm : List Nat := []) : Orc := .call 168 ks b (pB RES) [] [] sm

abbrev Pp (p0 : Ag) (k1 : Nat) := (p0.nodes.getD k1 (default : An))
abbrev c7e2 (s1 : IMap Int) (p0 : Ag) (k1 : Nat) := (s1.set (Pp p0 k1).id (w64 ((s1.get (Pp p0 k1).parent) + 1)))
abbrev c7e3 (p0 : Ag) : Nat × MV := (27,pI ((p0.nodes.length : Nat) : Int))
abbrev c7e4 (p0 : Ag) : Nat × Obj := (1008,bx (pm (As p0)))
theorem Vb (p0 : Ag) (RES : Bool) (hm : Oi p0 = some RES) : Spec Tryz.prog 92 [.p (.agg (As p0))] [] (pB RES) [] [] := by
 unfold Oi at hm
 refine SO Tryz.func92 rfl rfl [(0,.p (.agg (As p0)))] [] ?_
 intro cx hnt
 refine Sq (RK hnt (nn 2 []) [(1,rr 1008)] [(c7e4 p0)] tv ?_)
 refine Sq (Sq ?_)
 refine Jn (ι := Bool) (fun (y1 : Bool) => Aj [(1,rr 1008),(23,pB y1)] [(c7e4 p0)]) (fun y1 => (Nq p0) y1 = some RES) ?_ ?_
 ·intro y1 hm
  unfold Nq at hm
  refine Ae hm ?_ ?_
  ·intro h5 hm
   refine Sq (RK hnt (.no :: []) [(2,pB false)] [] tv ?_)
   obtain rfl := sj hm
   exact DW.ret (Ah [] [] (pB false))
  ·intro h5 hm
   refine Sk ?_
   refine Sq (RD hnt (nn 2 []) [23] [(3,.mref 1192 0)] [] [(1192,ob0 (mapOf vi (vi 0) (IMap.empty 0)))] tv ?_)
   refine Sq (Sq (RD hnt (nn 4 []) [] [(26,.p (Az p0.nodes)),(c7e3 p0),(28,pI 0)] [] [] tv ?_))
   refine Bk ?_
   obtain ⟨hc1,hm⟩ := go1 hm
   refine DW.rangeO (fun (k1 : Nat) (s1 : IMap Int) => Aj [(1,rr 1008),(3,.mref 1192 0),(26,.p (Az p0.nodes)),(c7e3 p0),(28,pI ((k1 : Nat) : Int))] [(c7e4 p0),(1192,ob0 (mapOf vi (vi 0) s1))]) Bj hm Conv.eqK ?_
   intro k1 s1 n1 hk1 hs1 he1
   refine Sq (RD hnt (.no :: []) [] [(29,pB (decide (((k1 : Nat) : Int) < ((p0.nodes.length : Nat) : Int))))] [] [] tv ?_)
   refine Sq (Cb (decide (((k1 : Nat) : Int) < ((p0.nodes.length : Nat) : Int))) ?_ ?_)
   ·intro h36
    have hlt1 : k1 < p0.nodes.length := by have := of_decide_eq_true h36; omega
    have hm := hs1 hlt1
    unfold Zn at hm
    refine Sk ?_
    refine Sq (Bk ?_)
    refine Sq (RD hnt (nn 6 []) [29] [(4,pI ((k1 : Nat) : Int)),(5,rr 1040)] [] [(1040,bx (pm (Aq (Pp p0 k1))))] (an (nn0 k1) (an (ltc hlt1) tv)) ?_)
    refine Sq (Sq ?_)
    refine Jn (ι := Bool) (fun (y8 : Bool) => Aj [(1,rr 1008),(3,.mref 1192 0),(4,pI ((k1 : Nat) : Int)),(5,rr 1040),(26,.p (Az p0.nodes)),(c7e3 p0),(28,pI ((k1 : Nat) : Int)),(64,pB y8)] [(c7e4 p0),(1040,bx (pm (Aq (Pp p0 k1)))),(1192,ob0 (mapOf vi (vi 0) s1))]) (fun y8 => (Gf k1 (Pp p0 k1) s1 n1) y8 = some RES) ?_ ?_
    ·intro y8 hm
     unfold Gf at hm
     refine Ae hm ?_ ?_
     ·intro h44 hm
      refine Sq (RK hnt (.no :: []) [(2,pB false)] [] tv ?_)
      obtain rfl := sj hm
      exact DW.ret (Ah [] [] (pB false))
     ·intro h44 hm
      refine Sk ?_
      refine Sq (Sq (RD hnt (nn 2 []) [4,64] [(66,pB (decide (((k1 : Nat) : Int) > 0)))] [] [] tv ?_))
      refine Jn (ι := IMap Int) (fun (y9 : IMap Int) => Aj [(1,rr 1008),(3,.mref 1192 0),(5,rr 1040),(26,.p (Az p0.nodes)),(c7e3 p0),(28,pI ((k1 : Nat) : Int))] [(c7e4 p0),(1040,bx (pm (Aq (Pp p0 k1)))),(1192,ob0 (mapOf vi (vi 0) y9))]) (fun y9 => (Qr (Pp p0 k1) n1) y9 = some RES) ?_ ?_
      ·intro y9 hm
       unfold Qr at hm
       refine Sq (RD hnt (nn 5 []) [5] [(79,pB (decide ((y9.get (Pp p0 k1).id) > 8)))] [1040] [] (an (rfl : vi 0 = vi 0) tv) ?_)
       refine Ae hm ?_ ?_
       ·intro h46 hm
        refine Sq (RK hnt (.no :: []) [(2,pB false)] [] tv ?_)
        obtain rfl := sj hm
        exact DW.ret (Ah [] [] (pB false))
       ·intro h46 hm
        refine Sk ?_
        refine DW.done ?_
        show DW _ _ _ _ _
        refine RD hnt (nn 2 []) [79] [(28,pI (w64 (((k1 : Nat) : Int) + 1)))] [] [] tv ?_
        exact jD y9 ⟨hlt1,hm⟩ (Conv.tp [(28,pI (w64 (((k1 : Nat) : Int) + 1)))] [] (by kernel_rfl) (.cons rfl (.of_eq (congrArg pI (Bl hlt1 hc1))) .nil) .nil)
      ·refine Ae hm ?_ ?_
       ·intro h45 hm
        refine RD hnt (nn 8 (.asM (c7e2 s1 p0 k1).has (fun j => vi ((c7e2 s1 p0 k1).get j)) :: [])) [66] [] [] [(1192,ob0 (mapOf vi (vi 0) (c7e2 s1 p0 k1)))] (an (rfl : vi 0 = vi 0) (an (mset_has s1 (Pp p0 k1).id (w64 ((s1.get (Pp p0 k1).parent) + 1))) (an (mset_get vi s1 (Pp p0 k1).id (w64 ((s1.get (Pp p0 k1).parent) + 1))) tv))) ?_
        exact jD (c7e2 s1 p0 k1) hm Conv.eqK
       ·intro h45 hm
        refine Sk ?_
        exact jD s1 hm Conv.t0
    ·rcases bt (decide ((Pp p0 k1).control < 0)) with h37 | h37
     ·replace hm := Bf h37 hm
      refine RD hnt (nn 4 (sk 4 (pT :: .no :: sk 3 (pT :: .no :: sk 3 (pT :: .no :: sk 11 (pT :: [])))))) [] [(64,pB true)] [] [] (an5 h37 (an tt (an6 tt (an6 tt tv)))) ?_
      exact jD true hm Conv.eqK
     ·replace hm := Be h37 hm
      rcases bt ((Eb .i64 (Pp p0 k1).control 31) != 0) with h38 | h38
      ·replace hm := Bf h38 hm
       refine RD hnt (nn 8 (pF :: .no :: sk 3 (pT :: .no :: sk 3 (pT :: .no :: sk 11 (pT :: []))))) [] [(64,pB true)] [] [] (an5 h37 (an4 h38 (an3 tt (an6 tt tv)))) ?_
       exact jD true hm Conv.eqK
      ·replace hm := Be h38 hm
       rcases bt (decide ((Pp p0 k1).owner < 0)) with h39 | h39
       ·replace hm := Bf h39 hm
        refine RD hnt (nn 8 (pF :: nn 4 (pF :: .no :: sk 3 (pT :: .no :: sk 11 (pT :: []))))) [] [(64,pB true)] [] [] (an5 h37 (an4 h38 (an4 h39 (an5 tt tv)))) ?_
        exact jD true hm Conv.eqK
       ·replace hm := Be h39 hm
        rcases bt (decide ((Pp p0 k1).owner > 1048576)) with h40 | h40
        ·replace hm := Bf h40 hm
         refine RD hnt (nn 8 (pF :: nn 4 (pF :: nn 4 (pF :: .no :: sk 11 (pT :: []))))) [] [(64,pB true)] [] [] (an5 h37 (an4 h38 (an4 h39 (an5 h40 tv)))) ?_
         exact jD true hm Conv.eqK
        ·replace hm := Be h40 hm
         rcases bt (decide (((k1 : Nat) : Int) > 0)) with h41 | h41
         ·replace hm := Bf h41 hm
          obtain ⟨g42,hm⟩ := go1 hm
          obtain ⟨r43,hr43,hm⟩ := bo hm
          refine RD hnt (nn 8 (pF :: nn 4 (pF :: nn 4 (pF :: nn 9 (o9 [] true r43 :: .no :: pT :: pF :: []))))) [] [(64,pB (!r43))] [] [] (an5 h37 (an4 h38 (an4 h39 (an3 h40 (an4 h41 (an (by omega : (0 : Int) ≤ 0) (an (by omega : (0 : Int) ≤ ((k1 : Nat) : Int)) (an (by omega : ((k1 : Nat) : Int) ≤ ((p0.nodes.length : Nat) : Int)) (an2 h41 (an (Spec.args (xs := [.p (.sl .unk 6 k1 (Xf p0.nodes)),.p (.agg (Aq (Pp p0 k1)))]) (AhA (p0.nodes.take k1) (Pp p0 k1) r43 hr43) (.cons (.p (PLe.typed (RowIs.elems.take (by omega)))) (.cons .rfl .nil))) (an h41 (an h40 (an h41 (an h40 tv)))))))))))))) ?_
          exact jD (!r43) hm Conv.eqK
         ·replace hm := Be h41 hm
          refine RD hnt (nn 8 (pF :: nn 4 (pF :: nn 4 (pF :: nn 4 (sk 7 (pF :: pF :: [])))))) [] [(64,pB false)] [] [] (an5 h37 (an4 h38 (an4 h39 (an3 h40 (an h41 (an6 h41 (an h40 (an h41 (an h40 tv))))))))) ?_
          exact jD false hm Conv.eqK
   ·intro h36
    have hge1 : ¬ k1 < p0.nodes.length := by have := of_decide_eq_false h36; omega
    have hm := he1 hge1
    unfold Zh at hm
    refine DW.exit ?_
    refine Ao ?_
    refine Au ?_
    refine Am ?_
    show DW _ _ _ _ _
    obtain ⟨g47,hm⟩ := go1 hm
    refine Sq ?_
    refine Jn (ι := Bool) (fun (y10 : Bool) => Aj [(2,pB y10)] []) (fun y10 => Ot y10 = some RES) ?_ ?_
    ·intro y10 hm
     unfold Ot at hm
     obtain rfl := sj hm
     exact DW.ret (Ah [] [] (pB y10))
    ·rcases bt (decide (p0.next > (p0.nodes.getD (Int.toNat (w64 (((p0.nodes.length : Nat) : Int) - 1))) Bj).id)) with h48 | h48
     ·replace hm := Bf h48 hm
      refine RK hnt (nn 16 (pT :: .no :: [])) [(2,pB (decide (p0.next ≤ 2147483648)))] [] (an g47.1 (an g47.2 (an4 h48 tv))) ?_
      exact jD (decide (p0.next ≤ 2147483648)) hm .refl
     ·replace hm := Be h48 hm
      refine RK hnt (nn 13 (sk 3 (pF :: .no :: []))) [(2,pB false)] [] (an g47.1 (an g47.2 (an4 h48 tv))) ?_
      exact jD false hm .refl
 ·rcases bt (decide (((p0.nodes.length : Nat) : Int) < 1)) with h1 | h1
  ·replace hm := Bf h1 hm
   refine RD hnt (nn 5 (sk 4 (pT :: .no :: sk 6 (pT :: [])))) [] [(23,pB true)] [] [] (an5 h1 (an tt (an6 tt tv))) ?_
   exact jD true hm Conv.eqK
  ·replace hm := Be h1 hm
   rcases bt (decide (((p0.nodes.length : Nat) : Int) > 64)) with h2 | h2
   ·replace hm := Bf h2 hm
    refine RD hnt (nn 9 (pF :: .no :: sk 6 (pT :: []))) [] [(23,pB true)] [] [] (an5 h1 (an h2 (an6 h2 tv))) ?_
    exact jD true hm Conv.eqK
   ·replace hm := Be h2 hm
    obtain ⟨g3,hm⟩ := go1 hm
    obtain ⟨r4,hr4,hm⟩ := bo hm
    refine RD hnt (nn 9 (pF :: nn 5 (o8 [] true r4 :: .no :: pF :: []))) [] [(23,pB (!r4))] [] [] (an5 h1 (an3 h2 (an (nn0 0) (an (ltc g3) (an2 h2 (an (Ahq (p0.nodes.getD 0 Bj) r4 hr4) (an2 h2 tv))))))) ?_
    exact jD (!r4) hm Conv.eqK
abbrev o7 (ks : List Nat) (b : Bool) (RES : Bool) (sm : List Nat := []) : Orc := .call 92 ks b (pB RES) [] [] sm

theorem Ahu (p0 : Aw) (p1 : Int) (RES : Bool) (hm : Adq p0 p1 = some RES) : Spec Tryz.prog 205 [.p (.agg (Ay p0)),rr 0] [.box [pI p1]] (pB RES) [.box [pI p1]] [] := by
 unfold Adq at hm
 refine SO Tryz.func205 rfl rfl [(0,.p (.agg (Ay p0))),(1,rr 0)] [(0,bx [pI p1])] ?_
 intro cx hnt
 refine Sq (RD hnt (nn 2 []) [0] [(2,rr 1016)] [] [(1016,bx (pm (Ay p0)))] tv ?_)
 refine Sq (RK hnt (nn 5 []) [(3,pB (p0.id == p1))] [(0,bx [pI p1])] tv ?_)
 obtain rfl := sj hm
 exact DW.ret (Ah [.box [pI p1]] [] (pB (p0.id == p1)))

theorem Rd (p0 : List Aw) (p1c0 : Int) (RES : Int) (hm : Fs p0 p1c0 = some RES) : Spec Tryz.prog 204 [.p (Bb p0),.fn 205 [rr 0]] [.box [pI p1c0]] (pI RES) [.box [pI p1c0]] [] := by
 unfold Fs at hm
 refine SO Tryz.func204 rfl rfl [(0,.p (Bb p0)),(1,.fn 205 [rr 0])] [(0,bx [pI p1c0])] ?_
 intro cx hnt
 refine Sq (RD hnt (.no :: []) [] [] [] [] tv ?_)
 refine Sq (Sq (RD hnt (nn 3 []) [] [(7,pI ((p0.length : Nat) : Int)),(8,pI 0)] [] [] tv ?_))
 refine Bk ?_
 obtain ⟨hc1,hm⟩ := go1 hm
 refine DW.rangeO (fun (k1 : Nat) (s1 : Unit) => Aj [(0,.p (Bb p0)),(1,.fn 205 [rr 0]),(7,pI ((p0.length : Nat) : Int)),(8,pI ((k1 : Nat) : Int))] [(0,bx [pI p1c0])]) Bt hm Conv.eqK ?_
 intro k1 s1 n1 hk1 hs1 he1
 refine Sq (RD hnt (.no :: []) [] [(9,pB (decide (((k1 : Nat) : Int) < ((p0.length : Nat) : Int))))] [] [] tv ?_)
 refine Sq (Cb (decide (((k1 : Nat) : Int) < ((p0.length : Nat) : Int))) ?_ ?_)
 ·intro h9
  have hlt1 : k1 < p0.length := by have := of_decide_eq_true h9; omega
  have hm := hs1 hlt1
  unfold La at hm
  refine Sk ?_
  refine Sq (Bk ?_)
  refine Sq (RD hnt (nn 2 []) [9] [(5,pI ((k1 : Nat) : Int))] [] [] tv ?_)
  obtain ⟨r10,hr10,hm⟩ := bo hm
  refine Sq (RD hnt (nn 5 (.call 205 [0] true (pB r10) [.box [pI p1c0]] [] [] :: [])) [] [(16,pB r10)] [] [] (an (nn0 k1) (an (ltc hlt1) (an (Ahu (p0.getD k1 (default : Aw)) p1c0 r10 hr10) (an tv tv)))) ?_)
  refine Ae hm ?_ ?_
  ·intro h11 hm
   refine Sq (RK hnt (nn 2 []) [(4,pI ((k1 : Nat) : Int))] [(0,bx [pI p1c0])] tv ?_)
   obtain rfl := sj hm
   exact DW.ret (Ah [.box [pI p1c0]] [] (pI ((k1 : Nat) : Int)))
  ·intro h11 hm
   refine Sk ?_
   refine DW.done ?_
   show DW _ _ _ _ _
   refine RD hnt (nn 2 []) [5,16] [(8,pI (w64 (((k1 : Nat) : Int) + 1)))] [] [] tv ?_
   exact jD () ⟨hlt1,hm⟩ (Conv.tp [(8,pI (w64 (((k1 : Nat) : Int) + 1)))] [] (by kernel_rfl) (.cons rfl (.of_eq (congrArg pI (Bl hlt1 hc1))) .nil) .nil)
 ·intro h9
  have hge1 : ¬ k1 < p0.length := by have := of_decide_eq_false h9; omega
  have hm := he1 hge1
  unfold Lb at hm
  refine DW.exit ?_
  refine Ao ?_
  refine Au ?_
  refine Am ?_
  show DW _ _ _ _ _
  refine Sq (RK hnt (.no :: []) [(4,pI (-1))] [(0,bx [pI p1c0])] tv ?_)
  obtain rfl := sj hm
  exact DW.ret (Ah [.box [pI p1c0]] [] (pI (-1)))

theorem AiT (p0 : Aa) (p1 : Int) (RES : Int) (hm : Abo p0 p1 = some RES) : Spec Tryz.prog 155 [.p (.agg (Ab p0)),pI p1] [] (pI RES) [] [] := by
 unfold Abo at hm
 refine SO Tryz.func155 rfl rfl [(0,.p (.agg (Ab p0))),(1,pI p1)] [] ?_
 intro cx hnt
 refine Sq (RK hnt (nn 3 []) [(2,rr 1016),(3,rr 1024)] [(1016,bx (pm (Ab p0))),(1024,bx [pI p1])] tv ?_)
 obtain ⟨r1,hr1,hm⟩ := bo hm
 refine Sq (RK hnt (nn 3 (.call 204 [1024] true (pI r1) [.box [pI p1]] [] [] :: .no :: [])) [(4,pI r1)] [] (an (Rd p0.tasks p1 r1 hr1) (an tv tv)) ?_)
 obtain rfl := sj hm
 exact DW.ret (Ah [] [] (pI r1))
abbrev o14 (ks : List Nat) (b : Bool) (RES : Int) (sm : List Nat := []) : Orc := .call 155 ks b (pI RES) [] [] sm

theorem AcG (p0 : Aa) (p1 : Int) (RES : Aw × Bool) (hm : Qz p0 p1 = some RES) : Spec Tryz.prog 97 [.p (.agg (Ab p0)),pI p1] [] (.p (.tup [.agg (Ay RES.1),vb RES.2])) [] [] := by
 unfold Qz at hm
 refine SO Tryz.func97 rfl rfl [(0,.p (.agg (Ab p0))),(1,pI p1)] [] ?_
 intro cx hnt
 refine Sq (RK hnt (nn 3 []) [(1,pI p1),(2,rr 1016),(4,rr 1032)] [(1016,bx (pm (Ab p0))),(1032,bx [pI 0,pI 0,pI 0,pI 0])] tv ?_)
 obtain ⟨r1,hr1,hm⟩ := bo hm
 refine Sq (RD hnt (nn 2 (o14 [] true r1 :: .no :: [])) [1] [(6,pI r1)] [] [] (an (AiT p0 p1 r1 hr1) tv) ?_)
 refine Sq (Sq (RD hnt (nn 2 []) [] [(11,pB (decide (r1 < 0)))] [] [] tv ?_))
 refine Ae hm ?_ ?_
 ·intro h2 hm
  refine Sq (RD hnt (nn 3 []) [2,6,11] [(5,pB false)] [1016] [] tv ?_)
  obtain rfl := sj hm
  exact DW.ret (Ah [] [] (.p (.tup [.agg [vi 0,vi 0,vi 0,vi 0],vb false])))
 ·intro h2 hm
  refine Sk ?_
  obtain ⟨g3,hm⟩ := go1 hm
  refine Sq (RK hnt (nn 7 []) [(4,rr 1032),(5,pB true)] [(1032,bx (pm (Ay (p0.tasks.getD (Int.toNat r1) Bt))))] (an g3.1 (an g3.2 tv)) ?_)
  obtain rfl := sj hm
  exact DW.ret (Ah [] [] (.p (.tup [.agg (Ay (p0.tasks.getD (Int.toNat r1) Bt)),vb true])))
abbrev o13 (ks : List Nat) (b : Bool) (RES : Aw × Bool) (sm : List Nat := []) : Orc := .call 97 ks b (.p (.tup [.agg (Ay RES.1),vb RES.2])) [] [] sm

theorem AfD (p0 : An) (p1 : Int) (RES : Bool) (hm : AaV p0 p1 = some RES) : Spec Tryz.prog 203 [.p (.agg (Aq p0)),rr 0] [.box [pI p1]] (pB RES) [.box [pI p1]] [] := by
 unfold AaV at hm
 refine SO Tryz.func203 rfl rfl [(0,.p (.agg (Aq p0))),(1,rr 0)] [(0,bx [pI p1])] ?_
 intro cx hnt
 refine Sq (RD hnt (nn 2 []) [0] [(2,rr 1016)] [] [(1016,bx (pm (Aq p0)))] tv ?_)
 refine Sq (RK hnt (nn 5 []) [(3,pB (p0.id == p1))] [(0,bx [pI p1])] tv ?_)
 obtain rfl := sj hm
 exact DW.ret (Ah [.box [pI p1]] [] (pB (p0.id == p1)))

theorem Qb (p0 : List An) (p1c0 : Int) (RES : Int) (hm : Fe p0 p1c0 = some RES) : Spec Tryz.prog 202 [.p (Az p0),.fn 203 [rr 0]] [.box [pI p1c0]] (pI RES) [.box [pI p1c0]] [] := by
 unfold Fe at hm
 refine SO Tryz.func202 rfl rfl [(0,.p (Az p0)),(1,.fn 203 [rr 0])] [(0,bx [pI p1c0])] ?_
 intro cx hnt
 refine Sq (RD hnt (.no :: []) [] [] [] [] tv ?_)
 refine Sq (Sq (RD hnt (nn 3 []) [] [(7,pI ((p0.length : Nat) : Int)),(8,pI 0)] [] [] tv ?_))
 refine Bk ?_
 obtain ⟨hc1,hm⟩ := go1 hm
 refine DW.rangeO (fun (k1 : Nat) (s1 : Unit) => Aj [(0,.p (Az p0)),(1,.fn 203 [rr 0]),(7,pI ((p0.length : Nat) : Int)),(8,pI ((k1 : Nat) : Int))] [(0,bx [pI p1c0])]) Bj hm Conv.eqK ?_
 intro k1 s1 n1 hk1 hs1 he1
 refine Sq (RD hnt (.no :: []) [] [(9,pB (decide (((k1 : Nat) : Int) < ((p0.length : Nat) : Int))))] [] [] tv ?_)
 refine Sq (Cb (decide (((k1 : Nat) : Int) < ((p0.length : Nat) : Int))) ?_ ?_)
 ·intro h9
  have hlt1 : k1 < p0.length := by have := of_decide_eq_true h9; omega
  have hm := hs1 hlt1
  unfold Kk at hm
  refine Sk ?_
  refine Sq (Bk ?_)
  refine Sq (RD hnt (nn 2 []) [9] [(5,pI ((k1 : Nat) : Int))] [] [] tv ?_)
  obtain ⟨r10,hr10,hm⟩ := bo hm
  refine Sq (RD hnt (nn 5 (.call 203 [0] true (pB r10) [.box [pI p1c0]] [] [] :: [])) [] [(16,pB r10)] [] [] (an (nn0 k1) (an (ltc hlt1) (an (AfD (p0.getD k1 (default : An)) p1c0 r10 hr10) (an tv tv)))) ?_)
  refine Ae hm ?_ ?_
  ·intro h11 hm
   refine Sq (RK hnt (nn 2 []) [(4,pI ((k1 : Nat) : Int))] [(0,bx [pI p1c0])] tv ?_)
   obtain rfl := sj hm
   exact DW.ret (Ah [.box [pI p1c0]] [] (pI ((k1 : Nat) : Int)))
  ·intro h11 hm
   refine Sk ?_
   refine DW.done ?_
   show DW _ _ _ _ _
   refine RD hnt (nn 2 []) [5,16] [(8,pI (w64 (((k1 : Nat) : Int) + 1)))] [] [] tv ?_
   exact jD () ⟨hlt1,hm⟩ (Conv.tp [(8,pI (w64 (((k1 : Nat) : Int) + 1)))] [] (by kernel_rfl) (.cons rfl (.of_eq (congrArg pI (Bl hlt1 hc1))) .nil) .nil)
 ·intro h9
  have hge1 : ¬ k1 < p0.length := by have := of_decide_eq_false h9; omega
  have hm := he1 hge1
  unfold Ke at hm
  refine DW.exit ?_
  refine Ao ?_
  refine Au ?_
  refine Am ?_
  show DW _ _ _ _ _
  refine Sq (RK hnt (.no :: []) [(4,pI (-1))] [(0,bx [pI p1c0])] tv ?_)
  obtain rfl := sj hm
  exact DW.ret (Ah [.box [pI p1c0]] [] (pI (-1)))

theorem Xt (p0 : Ag) (p1 : Int) (RES : Int) (hm : Ob p0 p1 = some RES) : Spec Tryz.prog 153 [.p (.agg (As p0)),pI p1] [] (pI RES) [] [] := by
 unfold Ob at hm
 refine SO Tryz.func153 rfl rfl [(0,.p (.agg (As p0))),(1,pI p1)] [] ?_
 intro cx hnt
 refine Sq (RK hnt (nn 3 []) [(2,rr 1016),(3,rr 1024)] [(1016,bx (pm (As p0))),(1024,bx [pI p1])] tv ?_)
 obtain ⟨r1,hr1,hm⟩ := bo hm
 refine Sq (RK hnt (nn 3 (.call 202 [1024] true (pI r1) [.box [pI p1]] [] [] :: .no :: [])) [(4,pI r1)] [] (an (Qb p0.nodes p1 r1 hr1) (an tv tv)) ?_)
 obtain rfl := sj hm
 exact DW.ret (Ah [] [] (pI r1))
abbrev o17 (ks : List Nat) (b : Bool) (RES : Int) (sm : List Nat := []) : Orc := .call 153 ks b (pI RES) [] [] sm

theorem AfK (p0 : Aa) (p1 : Aw) (RES : Bool) (hm : Se p0 p1 = some RES) : Spec Tryz.prog 93 [.p (.agg (Ab p0)),.p (.agg (Ay p1))] [] (pB RES) [] [] := by
 unfold Se at hm
 refine SO Tryz.func93 rfl rfl [(0,.p (.agg (Ab p0))),(1,.p (.agg (Ay p1)))] [] ?_
 intro cx hnt
 refine Sq (RK hnt (nn 3 []) [(2,rr 1016),(3,rr 1024)] [(1016,bx (pm (Ab p0))),(1024,bx (pm (Ay p1)))] tv ?_)
 obtain ⟨r1,hr1,hm⟩ := bo hm
 refine Sq (RD hnt (nn 3 (o13 [] true r1 :: nn 6 [])) [] [(5,rr 1040),(6,pB r1.2)] [] [(1040,bx (pm (Ay r1.1)))] (an (AcG p0 p1.process r1 hr1) tv) ?_)
 refine Sq ?_
 refine Jn (ι := Bool) (fun (y1 : Bool) => Aj [(4,pB y1)] []) (fun y1 => Hm y1 = some RES) ?_ ?_
 ·intro y1 hm
  unfold Hm at hm
  obtain rfl := sj hm
  exact DW.ret (Ah [] [] (pB y1))
 ·rcases bt (decide (p1.user ≥ 0)) with h2 | h2
  ·replace hm := Bf h2 hm
   rcases bt (decide (p1.user ≤ 1048576)) with h3 | h3
   ·replace hm := Bf h3 hm
    rcases bt r1.2 with h4 | h4
    ·replace hm := Bf h4 hm
     rcases bt (r1.1.process == r1.1.id) with h5 | h5
     ·replace hm := Bf h5 hm
      rcases bt (r1.1.user == p1.user) with h6 | h6
      ·replace hm := Bf h6 hm
       obtain ⟨r7,hr7,hm⟩ := bo hm
       refine RK hnt (nn 7 (pT :: nn 2 (pT :: nn 6 (pT :: nn 6 (pT :: nn 5 (o17 [] true r7 :: .no :: pT :: .no :: [])))))) [(4,pB (decide (r7 ≥ 0)))] [] (an4 h2 (an2 h3 (an6 h4 (an6 h5 (an5 h6 (an (Xt p0.tree p1.group r7 hr7) (an2 h6 tv))))))) ?_
       exact jD (decide (r7 ≥ 0)) hm .refl
      ·replace hm := Be h6 hm
       refine RK hnt (nn 7 (pT :: nn 2 (pT :: nn 6 (pT :: nn 6 (pT :: .no :: sk 6 (pF :: .no :: [])))))) [(4,pB false)] [] (an4 h2 (an2 h3 (an6 h4 (an6 h5 (an h6 (an6 h6 tv)))))) ?_
       exact jD false hm .refl
     ·replace hm := Be h5 hm
      refine RK hnt (nn 7 (pT :: nn 2 (pT :: nn 6 (pT :: .no :: sk 5 (pF :: .no :: sk 6 (pF :: .no :: [])))))) [(4,pB false)] [] (an4 h2 (an2 h3 (an6 h4 (an6 h5 (an ff (an6 ff tv)))))) ?_
      exact jD false hm .refl
    ·replace hm := Be h4 hm
     refine RK hnt (nn 7 (pT :: nn 2 (pT :: .no :: sk 5 (pF :: .no :: sk 5 (pF :: .no :: sk 6 (pF :: .no :: [])))))) [(4,pB false)] [] (an4 h2 (an2 h3 (an6 h4 (an ff (an6 ff (an6 ff tv)))))) ?_
     exact jD false hm .refl
   ·replace hm := Be h3 hm
    refine RK hnt (nn 7 (pT :: .no :: .skip :: pF :: .no :: sk 5 (pF :: .no :: sk 5 (pF :: .no :: sk 6 (pF :: .no :: []))))) [(4,pB false)] [] (an4 h2 (an2 h3 (an ff (an6 ff (an6 ff (an6 ff tv)))))) ?_
    exact jD false hm .refl
  ·replace hm := Be h2 hm
   refine RK hnt (nn 4 (sk 3 (pF :: .no :: .skip :: pF :: .no :: sk 5 (pF :: .no :: sk 5 (pF :: .no :: sk 6 (pF :: .no :: [])))))) [(4,pB false)] [] (an4 h2 (an3 ff (an6 ff (an6 ff (an6 ff tv))))) ?_
   exact jD false hm .refl
abbrev o12 (ks : List Nat) (b : Bool) (RES : Bool) (sm : List Nat := []) : Orc := .call 93 ks b (pB RES) [] [] sm

abbrev c6e1 (p0 : Aa) (k1 : Nat) := (p0.tasks.getD k1 (default : Aw))
theorem Od (p0 : Aa) (RES : Bool) (hm : Ka p0 = some RES) : Spec Tryz.prog 18 [.p (.agg (Ab p0))] [] (pB RES) [] [] := by
 unfold Ka at hm
 refine SO Tryz.func18 rfl rfl [(0,.p (.agg (Ab p0)))] [] ?_
 intro cx hnt
 refine Sq (RK hnt (nn 2 []) [(1,rr 1008)] [(1008,bx (pm (Ab p0)))] tv ?_)
 refine Sq (Sq ?_)
 refine Jn (ι := Bool) (fun (y1 : Bool) => Aj [(1,rr 1008),(20,pB y1)] [(1008,bx (pm (Ab p0)))]) (fun y1 => (Le p0) y1 = some RES) ?_ ?_
 ·intro y1 hm
  unfold Le at hm
  refine Ae hm ?_ ?_
  ·intro h4 hm
   refine Sq (RK hnt (.no :: []) [(2,pB false)] [] tv ?_)
   obtain rfl := sj hm
   exact DW.ret (Ah [] [] (pB false))
  ·intro h4 hm
   refine Sk ?_
   refine Sq (RD hnt (.no :: []) [20] [(3,pI 0)] [] [] tv ?_)
   refine Sq (Sq (RD hnt (nn 4 []) [] [(22,.p (Bb p0.tasks)),(23,pI ((p0.tasks.length : Nat) : Int)),(24,pI 0)] [] [] tv ?_))
   refine Bk ?_
   obtain ⟨hc1,hm⟩ := go1 hm
   refine DW.rangeO (fun (k1 : Nat) (s1 : Int) => Aj [(1,rr 1008),(3,pI s1),(22,.p (Bb p0.tasks)),(23,pI ((p0.tasks.length : Nat) : Int)),(24,pI ((k1 : Nat) : Int))] [(1008,bx (pm (Ab p0)))]) Bt hm Conv.eqK ?_
   intro k1 s1 n1 hk1 hs1 he1
   refine Sq (RD hnt (.no :: []) [] [(25,pB (decide (((k1 : Nat) : Int) < ((p0.tasks.length : Nat) : Int))))] [] [] tv ?_)
   refine Sq (Cb (decide (((k1 : Nat) : Int) < ((p0.tasks.length : Nat) : Int))) ?_ ?_)
   ·intro h15
    have hlt1 : k1 < p0.tasks.length := by have := of_decide_eq_true h15; omega
    have hm := hs1 hlt1
    unfold Va at hm
    refine Sk ?_
    refine Sq (Bk ?_)
    refine Sq (RD hnt (nn 4 []) [25] [(5,rr 1040)] [] [(1040,bx (pm (Ay (c6e1 p0 k1))))] (an (nn0 k1) (an (ltc hlt1) tv)) ?_)
    refine Sq (Sq ?_)
    refine Jn (ι := Bool) (fun (y4 : Bool) => Aj [(1,rr 1008),(5,rr 1040),(22,.p (Bb p0.tasks)),(23,pI ((p0.tasks.length : Nat) : Int)),(24,pI ((k1 : Nat) : Int)),(37,pB y4)] [(1008,bx (pm (Ab p0))),(1040,bx (pm (Ay (c6e1 p0 k1))))]) (fun y4 => (Ny (c6e1 p0 k1) n1) y4 = some RES) ?_ ?_
    ·intro y4 hm
     unfold Ny at hm
     refine Ae hm ?_ ?_
     ·intro h18 hm
      refine Sq (RK hnt (.no :: []) [(2,pB false)] [] tv ?_)
      obtain rfl := sj hm
      exact DW.ret (Ah [] [] (pB false))
     ·intro h18 hm
      refine Sk ?_
      refine RD hnt (nn 3 []) [5,37] [(3,pI (c6e1 p0 k1).id)] [1040] [] tv ?_
      refine DW.done ?_
      show DW _ _ _ _ _
      refine RD hnt (nn 2 []) [] [(24,pI (w64 (((k1 : Nat) : Int) + 1)))] [] [] tv ?_
      exact jD (c6e1 p0 k1).id ⟨hlt1,hm⟩ (Conv.tp [(24,pI (w64 (((k1 : Nat) : Int) + 1)))] [] (by kernel_rfl) (.cons rfl (.of_eq (congrArg pI (Bl hlt1 hc1))) .nil) .nil)
    ·rcases bt (decide ((c6e1 p0 k1).id ≤ s1)) with h16 | h16
     ·replace hm := Bf h16 hm
      refine RD hnt (nn 5 (sk 4 (pT :: []))) [3] [(37,pB true)] [] [] (an5 h16 tv) ?_
      exact jD true hm Conv.eqK
     ·replace hm := Be h16 hm
      obtain ⟨r17,hr17,hm⟩ := bo hm
      refine RD hnt (nn 7 (o12 [] true r17 :: .no :: pF :: [])) [3] [(37,pB (!r17))] [] [] (an3 h16 (an (AfK p0 (c6e1 p0 k1) r17 hr17) (an2 h16 tv))) ?_
      exact jD (!r17) hm Conv.eqK
   ·intro h15
    have hge1 : ¬ k1 < p0.tasks.length := by have := of_decide_eq_false h15; omega
    have hm := he1 hge1
    unfold AbK at hm
    refine DW.exit ?_
    refine Ao ?_
    refine Au ?_
    refine Am ?_
    show DW _ _ _ _ _
    refine Sq (RK hnt (nn 5 []) [(2,pB (decide (p0.next > s1)))] [] tv ?_)
    obtain rfl := sj hm
    exact DW.ret (Ah [] [] (pB (decide (p0.next > s1))))
 ·rcases bt (decide (((p0.tasks.length : Nat) : Int) > 128)) with h1 | h1
  ·replace hm := Bf h1 hm
   refine RD hnt (nn 5 (sk 3 (pT :: .no :: sk 4 (pT :: [])))) [] [(20,pB true)] [] [] (an4 h1 (an5 tt tv)) ?_
   exact jD true hm Conv.eqK
  ·replace hm := Be h1 hm
   rcases bt (decide (p0.next > 2147483648)) with h2 | h2
   ·replace hm := Bf h2 hm
    refine RD hnt (nn 8 (pF :: .no :: sk 4 (pT :: []))) [] [(20,pB true)] [] [] (an4 h1 (an5 h2 tv)) ?_
    exact jD true hm Conv.eqK
   ·replace hm := Be h2 hm
    obtain ⟨r3,hr3,hm⟩ := bo hm
    refine RD hnt (nn 8 (pF :: nn 3 (o7 [] true r3 :: .no :: pF :: []))) [] [(20,pB (!r3))] [] [] (an4 h1 (an3 h2 (an (Vb p0.tree r3 hr3) (an2 h2 tv)))) ?_
    exact jD (!r3) hm Conv.eqK
abbrev o6 (ks : List Nat) (b : Bool) (RES : Bool) (sm : List Nat := []) : Orc := .call 18 ks b (pB RES) [] [] sm

abbrev c5e1 (p0 : Aa) (k1 : Nat) := ({ group := (p0.tree.nodes.getD k1 (default : An)).id,want := false,frozen := false,changes := 0 } : Ai)
abbrev c5e2 : Nat × Obj := (1016,bx [.p (.sl .nil 0 0 (fun _ => [])),.p (.sl .nil 0 0 (fun _ => []))])
abbrev c5e3 (p0 : Aa) (k1 : Nat) := (p0.tree.nodes.getD k1 (default : An))
theorem AbC (p0 : Aa) (RES : Ac) (hm : Ym p0 = some RES) : Spec Tryz.prog 51 [.p (.agg (Ab p0))] [] (.agg [ow 0 RES.frosts.length,ow 1 RES.stopped.length]) [] [Af RES.frosts,roI RES.stopped] := by
 unfold Ym at hm
 refine SO Tryz.func51 rfl rfl [(0,.p (.agg (Ab p0)))] [] ?_
 intro cx hnt
 refine Sq (RK hnt (nn 2 []) [(1,rr 1008),(2,rr 1016)] [(1008,bx (pm (Ab p0))),(c5e2)] tv ?_)
 obtain ⟨r1,hr1,hm⟩ := bo hm
 refine Sq (Sq (RD hnt (.no :: o6 [] true r1 :: .no :: []) [] [(8,pB (!r1))] [] [] (an (Od p0 r1 hr1) tv) ?_))
 refine Ae hm ?_ ?_
 ·intro h2 hm
  refine Sq (RD hnt (nn 2 []) [1,8] [] [1008] [] tv ?_)
  refine DW.cv [] [] [] [(1016,bx [ow 100000 0,ow 100001 0]),(100000,ob0 (Af [])),(100001,ob0 (roI []))] (Conv.ads [(.o 1016 0,100000,4,elems Bd Bh []),(.o 1016 1,100001,1,elems Bm 0 [])]) ?_
  obtain rfl := sj hm
  exact DW.ret (Ah [Af [],roI []] [100000,100001] (.agg [ow 0 0,ow 1 0]))
 ·intro h2 hm
  refine Sk ?_
  refine Sq (RD hnt (.no :: []) [8] [(3,rr 1024)] [] [(1024,bx [.p (.sl .nil 0 0 (fun _ => [])),.p (.sl .nil 0 0 (fun _ => []))])] tv ?_)
  refine Sq (Sq (RD hnt (nn 5 []) [1] [(12,.p (Az p0.tree.nodes)),(13,pI ((p0.tree.nodes.length : Nat) : Int)),(14,pI 0)] [1008] [] tv ?_))
  refine Bk ?_
  obtain ⟨hc1,hm⟩ := go1 hm
  refine DW.rangeO (fun (k1 : Nat) (s1 : List Ai) => Aj [(2,rr 1016),(3,rr 1024),(12,.p (Az p0.tree.nodes)),(13,pI ((p0.tree.nodes.length : Nat) : Int)),(14,pI ((k1 : Nat) : Int))] [(c5e2),(1024,bx [ow 1192 s1.length,.p (.sl .nil 0 0 (fun _ => []))]),(1192,ob0 (Af s1))]) Bj hm (Conv.ads [(.o 1024 0,1192,4,elems Bd Bh [])]) ?_
  intro k1 s1 n1 hk1 hs1 he1
  refine Sq (RD hnt (.no :: []) [] [(15,pB (decide (((k1 : Nat) : Int) < ((p0.tree.nodes.length : Nat) : Int))))] [] [] tv ?_)
  refine Sq (Cb (decide (((k1 : Nat) : Int) < ((p0.tree.nodes.length : Nat) : Int))) ?_ ?_)
  ·intro h8
   have hlt1 : k1 < p0.tree.nodes.length := by have := of_decide_eq_true h8; omega
   have hm := hs1 hlt1
   unfold AdV at hm
   refine Sk ?_
   refine Sq (Bk ?_)
   refine Sq (RD hnt (nn 4 []) [15] [(5,rr 1040)] [] [(1040,bx (pm (Aq (c5e3 p0 k1))))] (an (nn0 k1) (an (ltc hlt1) tv)) ?_)
   obtain ⟨g9,hm⟩ := go1 hm
   refine RN hnt (nn 9 []) [(2,rr 1016),(3,rr 1024),(12,.p (Az p0.tree.nodes)),(13,pI ((p0.tree.nodes.length : Nat) : Int)),(14,pI ((k1 : Nat) : Int))] [(c5e2),(1024,bx [ow 1192 (s1 ++ [(c5e1 p0 k1)]).length,.p (.sl .nil 0 0 (fun _ => []))]),(1192,ob0 (Af (s1 ++ [(c5e1 p0 k1)])))] [] [(1024,.box [ow 1192 (s1.length + 1),.p (.sl .nil 0 0 (fun _ => []))]),(1192,.row 4 (s1.length + 1) (Cp s1.length (Kg s1) (cut 4 [vi (c5e3 p0 k1).id,vb false,vb false,vi 0])))] (an (by omega : (s1.length + 1) * 24 ≤ 140737488355328) tv) (by kernel_rfl) .nil (.cons rfl (.box (.cons (MLe.ownLen (enc := Bd) (d := Bh) (f := (Cp s1.length (Kg s1) (cut 4 [vi (c5e3 p0 k1).id,vb false,vb false,vi 0]))) (RowIs.cat RowIs.elems (RowIs.lit (enc := Bd) (d := Bh) (n := 1) (f := (cut 4 [vi (c5e3 p0 k1).id,vb false,vb false,vi 0])) [(c5e1 p0 k1)] rfl (fun | 0,_ => rfl | n + 1,h => absurd h (by omega))))) (.cons .rfl .nil))) (.cons rfl (BLe.typed (RowIs.cat RowIs.elems (RowIs.lit (enc := Bd) (d := Bh) (n := 1) (f := (cut 4 [vi (c5e3 p0 k1).id,vb false,vb false,vi 0])) [(c5e1 p0 k1)] rfl (fun | 0,_ => rfl | n + 1,h => absurd h (by omega))))) .nil)) ?_
   refine DW.done ?_
   show DW _ _ _ _ _
   refine RD hnt (nn 2 []) [] [(14,pI (w64 (((k1 : Nat) : Int) + 1)))] [] [] tv ?_
   exact jD (s1 ++ [(c5e1 p0 k1)]) ⟨hlt1,hm⟩ (Conv.tp [(14,pI (w64 (((k1 : Nat) : Int) + 1)))] [] (by kernel_rfl) (.cons rfl (.of_eq (congrArg pI (Bl hlt1 hc1))) .nil) .nil)
  ·intro h8
   have hge1 : ¬ k1 < p0.tree.nodes.length := by have := of_decide_eq_false h8; omega
   have hm := he1 hge1
   unfold AdQ at hm
   refine DW.exit ?_
   refine Ao ?_
   refine Au ?_
   refine Am ?_
   show DW _ _ _ _ _
   refine Sq (RD hnt (nn 2 []) [3,12,13,14,15] [] [1024] [(1016,bx [ow 1192 s1.length,.p (.sl .nil 0 0 (fun _ => []))])] tv ?_)
   refine DW.cv [] [] [] [(1016,bx [ow 1192 s1.length,ow 100000 0]),(100000,ob0 (roI []))] (Conv.ads [(.o 1016 1,100000,1,elems Bm 0 [])]) ?_
   obtain rfl := sj hm
   exact DW.ret (Ah [Af s1,roI []] [1192,100000] (.agg [ow 0 s1.length,ow 1 0]))
abbrev o5 (ks : List Nat) (b : Bool) (RES : Ac) (sm : List Nat := []) : Orc := .call 51 ks b (.agg [ow 0 RES.frosts.length,ow 1 RES.stopped.length]) [] [Af RES.frosts,roI RES.stopped] sm

theorem Age (p0 : Ag) (p1 : Int) (RES : An × Bool) (hm : Sm p0 p1 = some RES) : Spec Tryz.prog 195 [.p (.agg (As p0)),pI p1] [] (.p (.tup [.agg (Aq RES.1),vb RES.2])) [] [] := by
 unfold Sm at hm
 refine SO Tryz.func195 rfl rfl [(0,.p (.agg (As p0))),(1,pI p1)] [] ?_
 intro cx hnt
 refine Sq (RK hnt (nn 3 []) [(1,pI p1),(2,rr 1016),(4,rr 1032)] [(1016,bx (pm (As p0))),(1032,bx [pI 0,pI 0,pS ByteArray.empty,pI 0,pI 0,pI 0])] tv ?_)
 obtain ⟨r1,hr1,hm⟩ := bo hm
 refine Sq (RD hnt (nn 2 (o17 [] true r1 :: .no :: [])) [1] [(6,pI r1)] [] [] (an (Xt p0 p1 r1 hr1) tv) ?_)
 refine Sq (Sq (RD hnt (nn 2 []) [] [(11,pB (decide (r1 < 0)))] [] [] tv ?_))
 refine Ae hm ?_ ?_
 ·intro h2 hm
  refine Sq (RD hnt (nn 3 []) [2,6,11] [(5,pB false)] [1016] [] tv ?_)
  obtain rfl := sj hm
  exact DW.ret (Ah [] [] (.p (.tup [.agg [vi 0,vi 0,vs ByteArray.empty,vi 0,vi 0,vi 0],vb false])))
 ·intro h2 hm
  refine Sk ?_
  obtain ⟨g3,hm⟩ := go1 hm
  refine Sq (RK hnt (nn 7 []) [(4,rr 1032),(5,pB true)] [(1032,bx (pm (Aq (p0.nodes.getD (Int.toNat r1) Bj))))] (an g3.1 (an g3.2 tv)) ?_)
  obtain rfl := sj hm
  exact DW.ret (Ah [] [] (.p (.tup [.agg (Aq (p0.nodes.getD (Int.toNat r1) Bj)),vb true])))
abbrev o25 (ks : List Nat) (b : Bool) (RES : An × Bool) (sm : List Nat := []) : Orc := .call 195 ks b (.p (.tup [.agg (Aq RES.1),vb RES.2])) [] [] sm

theorem AbM (p0 : Ag) (p1 : Int) (RES : List Int) (hm : Ln p0 p1 = some RES) : Spec Tryz.prog 147 [.p (.agg (As p0)),pI p1] [] (ow 0 RES.length) [] [roI RES] := by
 unfold Ln at hm
 refine SO Tryz.func147 rfl rfl [(0,.p (.agg (As p0))),(1,pI p1)] [] ?_
 intro cx hnt
 refine Sq (RK hnt (nn 2 []) [(1,pI p1),(2,rr 1016)] [(1016,bx (pm (As p0)))] tv ?_)
 refine Sq (RD hnt (.no :: []) [] [(5,.p (.sl .nil 0 0 (fun _ => [])))] [] [] tv ?_)
 refine Sq (Sq (RD hnt (nn 4 []) [] [(10,pI ((p0.nodes.length : Nat) : Int)),(11,pI 0)] [] [] tv ?_))
 refine Jn (ι := List Int) (fun (y1 : List Int) => Aj [(5,ow 1192 y1.length)] [(1192,ob0 (roI y1))]) (fun y1 => Jv y1 = some RES) ?_ ?_
 ·intro y1 hm
  unfold Jv at hm
  refine Sq (RD hnt (nn 2 []) [5] [(4,ow 1192 y1.length)] [] [] tv ?_)
  obtain rfl := sj hm
  exact DW.ret (Ah [roI y1] [1192] (ow 0 y1.length))
 ·refine Bk ?_
  obtain ⟨hc1,hm⟩ := go1 hm
  refine DW.rangeO (fun (k1 : Nat) (s1 : (List Int) × Int) => Aj [(1,pI s1.2),(2,rr 1016),(5,ow 1192 s1.1.length),(10,pI ((p0.nodes.length : Nat) : Int)),(11,pI ((k1 : Nat) : Int))] [(1016,bx (pm (As p0))),(1192,ob0 (roI s1.1))]) Bj hm (Conv.ads [(.s 5,1192,1,elems Bm 0 [])]) ?_
  intro k1 s1 n1 hk1 hs1 he1
  refine Sq (RD hnt (.no :: []) [] [(12,pB (decide (((k1 : Nat) : Int) < ((p0.nodes.length : Nat) : Int))))] [] [] tv ?_)
  refine Sq (Cb (decide (((k1 : Nat) : Int) < ((p0.nodes.length : Nat) : Int))) ?_ ?_)
  ·intro h8
   have hlt1 : k1 < p0.nodes.length := by have := of_decide_eq_true h8; omega
   have hm := hs1 hlt1
   unfold Qt at hm
   refine Sk ?_
   refine Sq (Bk ?_)
   obtain ⟨r9,hr9,hm⟩ := bo hm
   refine Sq (RD hnt (nn 2 (o25 [] true r9 :: nn 6 [])) [12] [(6,rr 1048),(7,pB r9.2)] [] [(1048,bx (pm (Aq r9.1)))] (an (Age p0 s1.2 r9 hr9) tv) ?_)
   refine Sq (Sq (RD hnt (nn 2 []) [7] [(20,pB (!r9.2))] [] [] tv ?_))
   refine Ae hm ?_ ?_
   ·intro h10 hm
    refine DW.exit ?_
    refine Nm (by decide) ?_
    refine Au ?_
    refine Ao ?_
    refine Au ?_
    exact Am (joinKQ s1.1 hm Conv.t0)
   ·intro h10 hm
    refine Sk ?_
    obtain ⟨g11,hm⟩ := go1 hm
    refine Sq (RN hnt (nn 5 []) [(2,rr 1016),(5,ow 1192 (s1.1 ++ [s1.2]).length),(6,rr 1048),(10,pI ((p0.nodes.length : Nat) : Int)),(11,pI ((k1 : Nat) : Int))] [(1016,bx (pm (As p0))),(1048,bx (pm (Aq r9.1))),(1192,ob0 (roI (s1.1 ++ [s1.2])))] [(5,ow 1192 (s1.1.length + 1))] [(1192,.row 1 (s1.1.length + 1) (Cp s1.1.length (elI s1.1) (cut 1 [vi s1.2])))] (an (by omega : (s1.1.length + 1) * 8 ≤ 140737488355328) tv) (by kernel_rfl) (.cons rfl (MLe.ownLen (enc := Bm) (d := 0) (f := (Cp s1.1.length (elI s1.1) (cut 1 [vi s1.2]))) (RowIs.cat RowIs.elems (RowIs.lit (enc := Bm) (d := 0) (n := 1) (f := (cut 1 [vi s1.2])) [s1.2] rfl (fun | 0,_ => rfl | n + 1,h => absurd h (by omega))))) .nil) (.cons rfl (BLe.typed (RowIs.cat RowIs.elems (RowIs.lit (enc := Bm) (d := 0) (n := 1) (f := (cut 1 [vi s1.2])) [s1.2] rfl (fun | 0,_ => rfl | n + 1,h => absurd h (by omega))))) .nil) ?_)
    refine RD hnt (nn 3 []) [6] [(1,pI r9.1.parent)] [1048] [] tv ?_
    refine DW.done ?_
    show DW _ _ _ _ _
    refine RD hnt (nn 2 []) [] [(11,pI (w64 (((k1 : Nat) : Int) + 1)))] [] [] tv ?_
    exact jD ((s1.1 ++ [s1.2]),r9.1.parent) ⟨hlt1,hm⟩ (Conv.tp [(11,pI (w64 (((k1 : Nat) : Int) + 1)))] [] (by kernel_rfl) (.cons rfl (.of_eq (congrArg pI (Bl hlt1 hc1))) .nil) .nil)
  ·intro h8
   have hge1 : ¬ k1 < p0.nodes.length := by have := of_decide_eq_false h8; omega
   have hm := he1 hge1
   unfold Wm at hm
   refine DW.exit ?_
   refine Ao ?_
   refine Au ?_
   exact Am (joinKQ s1.1 hm Conv.t0)
abbrev o24 (ks : List Nat) (b : Bool) (RES : List Int) (sm : List Nat := []) : Orc := .call 147 ks b (ow 0 RES.length) [] [roI RES] sm

theorem Bc (p0 : Ac) (p1 : Int) (RES : Ai) (hm : Hl p0 p1 = some RES) : Spec Tryz.prog 55 [.p (.agg (Al p0)),pI p1] [] (.p (.agg (Bd RES))) [] [] := by
 unfold Hl at hm
 refine SO Tryz.func55 rfl rfl [(0,.p (.agg (Al p0))),(1,pI p1)] [] ?_
 intro cx hnt
 refine Sq (RK hnt (nn 2 []) [(1,pI p1),(2,rr 1016),(4,rr 1032)] [(1016,bx (pm (Al p0))),(1032,bx [pI 0,pB false,pB false,pI 0])] tv ?_)
 refine Sq (Sq (RD hnt (nn 4 []) [2] [(8,.p (Ec p0.frosts)),(9,pI ((p0.frosts.length : Nat) : Int)),(10,pI 0)] [1016] [] tv ?_))
 refine Bk ?_
 obtain ⟨hc1,hm⟩ := go1 hm
 refine DW.rangeO (fun (k1 : Nat) (s1 : Unit) => Aj [(1,pI p1),(4,rr 1032),(8,.p (Ec p0.frosts)),(9,pI ((p0.frosts.length : Nat) : Int)),(10,pI ((k1 : Nat) : Int))] [(1032,bx [pI 0,pB false,pB false,pI 0])]) Bh hm Conv.eqK ?_
 intro k1 s1 n1 hk1 hs1 he1
 refine Sq (RD hnt (.no :: []) [] [(11,pB (decide (((k1 : Nat) : Int) < ((p0.frosts.length : Nat) : Int))))] [] [] tv ?_)
 refine Sq (Cb (decide (((k1 : Nat) : Int) < ((p0.frosts.length : Nat) : Int))) ?_ ?_)
 ·intro h7
  have hlt1 : k1 < p0.frosts.length := by have := of_decide_eq_true h7; omega
  have hm := hs1 hlt1
  unfold AdZ at hm
  refine Sk ?_
  refine Sq (Bk ?_)
  refine Sq (RD hnt (nn 4 []) [11] [(6,rr 1048)] [] [(1048,bx (pm (Bd (p0.frosts.getD k1 (default : Ai)))))] (an (nn0 k1) (an (ltc hlt1) tv)) ?_)
  refine Sq (RD hnt (nn 4 []) [] [(17,pB ((p0.frosts.getD k1 (default : Ai)).group == p1))] [] [] tv ?_)
  refine Ae hm ?_ ?_
  ·intro h8 hm
   refine Sq (RK hnt (nn 2 []) [(4,rr 1032)] [(1032,bx (pm (Bd (p0.frosts.getD k1 (default : Ai)))))] tv ?_)
   obtain rfl := sj hm
   exact DW.ret (Ah [] [] (.p (.agg (Bd (p0.frosts.getD k1 (default : Ai))))))
  ·intro h8 hm
   refine Sk ?_
   refine DW.done ?_
   show DW _ _ _ _ _
   refine RD hnt (nn 2 []) [6,17] [(10,pI (w64 (((k1 : Nat) : Int) + 1)))] [1048] [] tv ?_
   exact jD () ⟨hlt1,hm⟩ (Conv.tp [(10,pI (w64 (((k1 : Nat) : Int) + 1)))] [] (by kernel_rfl) (.cons rfl (.of_eq (congrArg pI (Bl hlt1 hc1))) .nil) .nil)
 ·intro h7
  have hge1 : ¬ k1 < p0.frosts.length := by have := of_decide_eq_false h7; omega
  have hm := he1 hge1
  unfold Adv at hm
  refine DW.exit ?_
  refine Ao ?_
  refine Au ?_
  refine Am ?_
  show DW _ _ _ _ _
  refine Sq (RK hnt (nn 3 []) [(4,rr 1032)] [(1032,bx [pI p1,pB false,pB false,pI 0])] tv ?_)
  obtain rfl := sj hm
  exact DW.ret (Ah [] [] (.p (.agg [vi p1,vb false,vb false,vi 0])))
abbrev o26 (ks : List Nat) (b : Bool) (RES : Ai) (sm : List Nat := []) : Orc := .call 55 ks b (.p (.agg (Bd RES))) [] [] sm

theorem Jk (p0 : Ag) (p1 : Ac) (p2 : Int) (RES : Bool) (hm : Kc p0 p1 p2 = some RES) : Spec Tryz.prog 126 [.p (.agg (As p0)),.p (.agg (Al p1)),pI p2] [] (pB RES) [] [] := by
 unfold Kc at hm
 refine SO Tryz.func126 rfl rfl [(0,.p (.agg (As p0))),(1,.p (.agg (Al p1))),(2,pI p2)] [] ?_
 intro cx hnt
 refine Sq (RK hnt (nn 3 []) [(2,pI p2),(3,rr 1024),(4,rr 1032)] [(1024,bx (pm (As p0))),(1032,bx (pm (Al p1)))] tv ?_)
 obtain ⟨r1,hr1,hm⟩ := bo hm
 refine Sq (Sq (RD hnt (nn 2 (o24 [] true r1 :: nn 2 [])) [2,3] [(11,ow 1088 r1.length),(12,pI ((r1.length : Nat) : Int)),(13,pI 0)] [1024] [(1088,ob0 (roI r1))] (an (AbM p0 p2 r1 hr1) tv) ?_))
 refine Bk ?_
 obtain ⟨hc1,hm⟩ := go1 hm
 refine DW.rangeO (fun (k1 : Nat) (s1 : Unit) => Aj [(4,rr 1032),(11,ow 1088 r1.length),(12,pI ((r1.length : Nat) : Int)),(13,pI ((k1 : Nat) : Int))] [(1032,bx (pm (Al p1))),(1088,ob0 (roI r1))]) 0 hm Conv.eqK ?_
 intro k1 s1 n1 hk1 hs1 he1
 refine Sq (RD hnt (.no :: []) [] [(14,pB (decide (((k1 : Nat) : Int) < ((r1.length : Nat) : Int))))] [] [] tv ?_)
 refine Sq (Cb (decide (((k1 : Nat) : Int) < ((r1.length : Nat) : Int))) ?_ ?_)
 ·intro h12
  have hlt1 : k1 < r1.length := by have := of_decide_eq_true h12; omega
  have hm := hs1 hlt1
  unfold Vf at hm
  refine Sk ?_
  refine Sq (Bk ?_)
  refine Sq (RD hnt (nn 3 []) [14] [(8,pI (r1.getD k1 0))] [] [] (an (nn0 k1) (an (ltc hlt1) (an (by omega : k1 < r1.length) tv))) ?_)
  obtain ⟨r13,hr13,hm⟩ := bo hm
  refine Sq (RD hnt (nn 2 (o26 [] true r13 :: .no :: [])) [8] [(20,pB r13.want)] [] [] (an (Bc p1 (r1.getD k1 0) r13 hr13) tv) ?_)
  refine Ae hm ?_ ?_
  ·intro h14 hm
   refine Sq (RK hnt (.no :: []) [(6,pB true)] [] tv ?_)
   obtain rfl := sj hm
   exact DW.ret (Ah [] [] (pB true))
  ·intro h14 hm
   refine Sk ?_
   refine DW.done ?_
   show DW _ _ _ _ _
   refine RD hnt (nn 2 []) [20] [(13,pI (w64 (((k1 : Nat) : Int) + 1)))] [] [] tv ?_
   exact jD () ⟨hlt1,hm⟩ (Conv.tp [(13,pI (w64 (((k1 : Nat) : Int) + 1)))] [] (by kernel_rfl) (.cons rfl (.of_eq (congrArg pI (Bl hlt1 hc1))) .nil) .nil)
 ·intro h12
  have hge1 : ¬ k1 < r1.length := by have := of_decide_eq_false h12; omega
  have hm := he1 hge1
  unfold AbE at hm
  refine DW.exit ?_
  refine Ao ?_
  refine Au ?_
  refine Am ?_
  show DW _ _ _ _ _
  refine Sq (RK hnt (.no :: []) [(6,pB false)] [] tv ?_)
  obtain rfl := sj hm
  exact DW.ret (Ah [] [] (pB false))
abbrev o23 (ks : List Nat) (b : Bool) (RES : Bool) (sm : List Nat := []) : Orc := .call 126 ks b (pB RES) [] [] sm

theorem Rt (p0 : Aa) (p1 : Ac) (p2 : Int) (RES : Bool) (hm : Hk p0 p1 p2 = some RES) : Spec Tryz.prog 140 [.p (.agg (Ab p0)),.p (.agg (Al p1)),pI p2] [] (pB RES) [] [] := by
 unfold Hk at hm
 refine SO Tryz.func140 rfl rfl [(0,.p (.agg (Ab p0))),(1,.p (.agg (Al p1))),(2,pI p2)] [] ?_
 intro cx hnt
 refine Sq (RK hnt (nn 3 []) [(2,pI p2),(3,rr 1024),(4,rr 1032)] [(1024,bx (pm (Ab p0))),(1032,bx (pm (Al p1)))] tv ?_)
 obtain ⟨r1,hr1,hm⟩ := bo hm
 refine Sq (RD hnt (nn 2 (o13 [] true r1 :: nn 6 [])) [2] [(7,rr 1056),(8,pB r1.2)] [] [(1056,bx (pm (Ay r1.1)))] (an (AcG p0 p2 r1 hr1) tv) ?_)
 refine Sq ?_
 refine Jn (ι := Bool) (fun (y1 : Bool) => Aj [(6,pB y1)] []) (fun y1 => Pu y1 = some RES) ?_ ?_
 ·intro y1 hm
  unfold Pu at hm
  obtain rfl := sj hm
  exact DW.ret (Ah [] [] (pB y1))
 ·rcases bt r1.2 with h2 | h2
  ·replace hm := Bf h2 hm
   obtain ⟨r3,hr3,hm⟩ := bo hm
   refine RK hnt (nn 7 (o23 [] true r3 :: pT :: .no :: [])) [(6,pB r3)] [] (an6 h2 (an (Jk p0.tree p1 r1.1.group r3 hr3) (an h2 tv))) ?_
   exact jD r3 hm .refl
  ·replace hm := Be h2 hm
   refine RK hnt (nn 2 (sk 6 (pF :: .no :: []))) [(6,pB false)] [] (an h2 (an6 h2 tv)) ?_
   exact jD false hm .refl
abbrev o22 (ks : List Nat) (b : Bool) (RES : Bool) (sm : List Nat := []) : Orc := .call 140 ks b (pB RES) [] [] sm

abbrev Tw (p0 : Ag) (k1 : Nat) := (p0.nodes.getD k1 (default : An))
abbrev c29e2 (p0 : Ag) : Nat × MV := (10,pI ((p0.nodes.length : Nat) : Int))
theorem AcJ (p0 : Ag) (p1 : Int) (RES : List Int) (hm : Mj p0 p1 = some RES) : Spec Tryz.prog 211 [.p (.agg (As p0)),pI p1] [] (ow 0 RES.length) [] [roI RES] := by
 unfold Mj at hm
 refine SO Tryz.func211 rfl rfl [(0,.p (.agg (As p0))),(1,pI p1)] [] ?_
 intro cx hnt
 refine Sq (RK hnt (nn 2 []) [(1,pI p1),(2,rr 1016)] [(1016,bx (pm (As p0)))] tv ?_)
 refine Sq (RD hnt (.no :: []) [] [(5,.p (.sl .nil 0 0 (fun _ => [])))] [] [] tv ?_)
 refine Sq (Sq (RD hnt (nn 4 []) [2] [(9,.p (Az p0.nodes)),(c29e2 p0),(11,pI 0)] [1016] [] tv ?_))
 refine Bk ?_
 obtain ⟨hc1,hm⟩ := go1 hm
 refine DW.rangeO (fun (k1 : Nat) (s1 : List Int) => Aj [(1,pI p1),(5,ow 1184 s1.length),(9,.p (Az p0.nodes)),(c29e2 p0),(11,pI ((k1 : Nat) : Int))] [(1184,ob0 (roI s1))]) Bj hm (Conv.ads [(.s 5,1184,1,elems Bm 0 [])]) ?_
 intro k1 s1 n1 hk1 hs1 he1
 refine Sq (RD hnt (.no :: []) [] [(12,pB (decide (((k1 : Nat) : Int) < ((p0.nodes.length : Nat) : Int))))] [] [] tv ?_)
 refine Sq (Cb (decide (((k1 : Nat) : Int) < ((p0.nodes.length : Nat) : Int))) ?_ ?_)
 ·intro h8
  have hlt1 : k1 < p0.nodes.length := by have := of_decide_eq_true h8; omega
  have hm := hs1 hlt1
  unfold Rs at hm
  refine Sk ?_
  refine Sq ?_
  refine Jn (ι := List Int) (fun (y3 : List Int) => Aj [(1,pI p1),(5,ow 1184 y3.length),(9,.p (Az p0.nodes)),(c29e2 p0),(11,pI ((k1 : Nat) : Int))] [(1184,ob0 (roI y3))]) (fun y3 => (Ks n1) y3 = some RES) ?_ ?_
  ·intro y3 hm
   unfold Ks at hm
   refine RD hnt (nn 2 []) [] [(11,pI (w64 (((k1 : Nat) : Int) + 1)))] [] [] tv ?_
   exact jD y3 ⟨hlt1,hm⟩ (Conv.tp [(11,pI (w64 (((k1 : Nat) : Int) + 1)))] [] (by kernel_rfl) (.cons rfl (.of_eq (congrArg pI (Bl hlt1 hc1))) .nil) .nil)
  ·refine Bk ?_
   refine Sq (RD hnt (nn 4 []) [12] [(7,rr 1056)] [] [(1056,bx (pm (Aq (Tw p0 k1))))] (an (nn0 k1) (an (ltc hlt1) tv)) ?_)
   refine Sq (RD hnt (nn 4 []) [] [(18,pB ((Tw p0 k1).parent == p1))] [] [] tv ?_)
   refine Ae hm ?_ ?_
   ·intro h9 hm
    obtain ⟨g10,hm⟩ := go1 hm
    refine RN hnt (nn 6 []) [(1,pI p1),(5,ow 1184 (s1 ++ [(Tw p0 k1).id]).length),(9,.p (Az p0.nodes)),(c29e2 p0),(11,pI ((k1 : Nat) : Int))] [(1184,ob0 (roI (s1 ++ [(Tw p0 k1).id])))] [(5,ow 1184 (s1.length + 1))] [(1184,.row 1 (s1.length + 1) (Cp s1.length (elI s1) (cut 1 [vi (Tw p0 k1).id])))] (an (by omega : (s1.length + 1) * 8 ≤ 140737488355328) tv) (by kernel_rfl) (.cons rfl (MLe.ownLen (enc := Bm) (d := 0) (f := (Cp s1.length (elI s1) (cut 1 [vi (Tw p0 k1).id]))) (RowIs.cat RowIs.elems (RowIs.lit (enc := Bm) (d := 0) (n := 1) (f := (cut 1 [vi (Tw p0 k1).id])) [(Tw p0 k1).id] rfl (fun | 0,_ => rfl | n + 1,h => absurd h (by omega))))) .nil) (.cons rfl (BLe.typed (RowIs.cat RowIs.elems (RowIs.lit (enc := Bm) (d := 0) (n := 1) (f := (cut 1 [vi (Tw p0 k1).id])) [(Tw p0 k1).id] rfl (fun | 0,_ => rfl | n + 1,h => absurd h (by omega))))) .nil) ?_
    exact bD (s1 ++ [(Tw p0 k1).id]) hm .refl
   ·intro h9 hm
    refine Sk ?_
    exact bD s1 hm Conv.t0
 ·intro h8
  have hge1 : ¬ k1 < p0.nodes.length := by have := of_decide_eq_false h8; omega
  have hm := he1 hge1
  unfold Xu at hm
  refine DW.exit ?_
  refine Ao ?_
  refine Au ?_
  refine Am ?_
  show DW _ _ _ _ _
  refine Sq (RK hnt (nn 2 []) [(4,ow 1184 s1.length)] [(1184,ob0 (roI s1))] tv ?_)
  obtain rfl := sj hm
  exact DW.ret (Ah [roI s1] [1184] (ow 0 s1.length))
abbrev o29 (ks : List Nat) (b : Bool) (RES : List Int) (sm : List Nat := []) : Orc := .call 211 ks b (ow 0 RES.length) [] [roI RES] sm

abbrev Acc (p0 : Ag) : Nat × Obj := (1016,bx (pm (As p0)))
abbrev c28e2 : Nat × MV := (5,.p (.sl .nil 0 0 (fun _ => [])))
theorem Adu (p0 : Ag) (p1 : Int) (RES : List Int) (hm : Ni p0 p1 = some RES) : Spec Tryz.prog 173 [.p (.agg (As p0)),pI p1] [] (ow 0 RES.length) [] [roI RES] := by
 unfold Ni at hm
 refine SO Tryz.func173 rfl rfl [(0,.p (.agg (As p0))),(1,pI p1)] [] ?_
 intro cx hnt
 refine Sq (RK hnt (nn 2 []) [(1,pI p1),(2,rr 1016)] [(Acc p0)] tv ?_)
 obtain ⟨r1,hr1,hm⟩ := bo hm
 refine Sq (Sq (RD hnt (nn 2 (o17 [] true r1 :: .no :: [])) [] [(10,pB (decide (r1 < 0)))] [] [] (an (Xt p0 p1 r1 hr1) tv) ?_))
 refine Ae hm ?_ ?_
 ·intro h2 hm
  refine Sq (RK hnt (.no :: []) [(4,.p (.sl .nil 0 0 (fun _ => [])))] [] tv ?_)
  refine DW.cv [] [(4,ow 100000 0)] [] [(100000,ob0 (roI []))] (Conv.ads [(.s 4,100000,1,elems Bm 0 [])]) ?_
  obtain rfl := sj hm
  exact DW.ret (Ah [roI []] [100000] (ow 0 0))
 ·intro h2 hm
  refine Sk ?_
  refine Sq (RD hnt (.no :: []) [10] [(c28e2)] [] [] tv ?_)
  refine Sq (Sq (RN hnt (nn 3 []) [(2,rr 1016),(c28e2),(6,ow 1096 [p1].length)] [(Acc p0),(1096,ob0 (roI [p1]))] [(6,ow 1096 1)] [(1096,.row 1 1 (cut 1 [vi p1]))] tv (by kernel_rfl) (.cons rfl (MLe.ownLen (enc := Bm) (d := 0) (f := (cut 1 [vi p1])) (RowIs.lit (enc := Bm) (d := 0) (n := 1) (f := (cut 1 [vi p1])) [p1] rfl (fun | 0,_ => rfl | n + 1,h => absurd h (by omega)))) .nil) (.cons rfl (BLe.typed (RowIs.lit (enc := Bm) (d := 0) (n := 1) (f := (cut 1 [vi p1])) [p1] rfl (fun | 0,_ => rfl | n + 1,h => absurd h (by omega)))) .nil) ?_))
  refine Bk ?_
  refine DW.whileO (fun (s1 : (List Int) × (List Int)) => Aj [(2,rr 1016),(5,ow 1232 s1.1.length),(6,.p (slI s1.2))] [(Acc p0),(1232,ob0 (roI s1.1))]) hm (Conv.trans (τ := Aj [(2,rr 1016),(c28e2),(6,.p (slI [p1]))] [(Acc p0)]) (Conv.frz [1096]) (Conv.ads [(.s 5,1232,1,elems Bm 0 [])])) ?_
  intro s1 n1 hm
  unfold Te at hm
  refine Sq (Sq (DW.regJ (sl2 := [(2,rr 1016),(5,ow 1232 s1.1.length),(6,.p (slI s1.2)),(23,pB ((decide (((s1.2.length : Nat) : Int) > 0)) && (decide (((s1.1.length : Nat) : Int) < ((p0.nodes.length : Nat) : Int)))))]) (ob2 := [(Acc p0),(1232,ob0 (roI s1.1))]) ?_ ?_))
  ·rcases bt (decide (((s1.2.length : Nat) : Int) > 0)) with h12 | h12
   ·exact RT hnt (nn 10 (pT :: [])) [(23,pB (decide (((s1.1.length : Nat) : Int) < ((p0.nodes.length : Nat) : Int))))] (an h12 (an6 h12 tv)) (by kernel_rfl) (.cons rfl (.of_eq (by rw [h12]; try rfl)) .nil)
   ·exact RT hnt (nn 4 (sk 6 (pF :: []))) [(23,pB false)] (an h12 (an6 h12 tv)) (by kernel_rfl) (.cons rfl (.of_eq (by rw [h12]; try rfl)) .nil)
  ·refine Ae hm ?_ ?_
   ·intro h13 hm
    refine Sk ?_
    refine Bk ?_
    obtain ⟨g14,g15,hm⟩ := go2 hm
    refine Sq (RN hnt (nn 7 []) [(2,rr 1016),(5,ow 1232 (s1.1 ++ [(s1.2.getD 0 0)]).length),(6,.p (slI s1.2))] [(Acc p0),(1232,ob0 (roI (s1.1 ++ [(s1.2.getD 0 0)])))] [(5,ow 1232 (s1.1.length + 1))] [(1232,.row 1 (s1.1.length + 1) (Cp s1.1.length (elI s1.1) (cut 1 [vi (s1.2.getD 0 0)])))] (an (nn0 0) (an (ltc g14) (an (by omega : (s1.1.length + 1) * 8 ≤ 140737488355328) tv))) (by kernel_rfl) (.cons rfl (MLe.ownLen (enc := Bm) (d := 0) (f := (Cp s1.1.length (elI s1.1) (cut 1 [vi (s1.2.getD 0 0)]))) (RowIs.cat RowIs.elems (RowIs.lit (enc := Bm) (d := 0) (n := 1) (f := (cut 1 [vi (s1.2.getD 0 0)])) [(s1.2.getD 0 0)] rfl (fun | 0,_ => rfl | n + 1,h => absurd h (by omega))))) .nil) (.cons rfl (BLe.typed (RowIs.cat RowIs.elems (RowIs.lit (enc := Bm) (d := 0) (n := 1) (f := (cut 1 [vi (s1.2.getD 0 0)])) [(s1.2.getD 0 0)] rfl (fun | 0,_ => rfl | n + 1,h => absurd h (by omega))))) .nil) ?_)
    obtain ⟨g16,hm⟩ := go1 hm
    obtain ⟨r17,hr17,hm⟩ := bo hm
    obtain ⟨g18,g19,hm⟩ := go2 hm
    refine RN hnt (nn 4 (o29 [] true r17 :: nn 4 [])) [(2,rr 1016),(5,ow 1232 (s1.1 ++ [(s1.2.getD 0 0)]).length),(6,ow 1272 (r17 ++ (s1.2.drop 1)).length)] [(Acc p0),(1232,ob0 (roI (s1.1 ++ [(s1.2.getD 0 0)]))),(1272,ob0 (roI (r17 ++ (s1.2.drop 1))))] [(6,ow 1272 (r17.length + (Fp s1.2.length 1)))] [(1272,.row 1 (r17.length + (Fp s1.2.length 1)) (Cp r17.length (elI r17) (shF 1 (elI s1.2))))] (an (nn0 0) (an (ltc g16) (an (AcJ p0 (s1.2.getD 0 0) r17 hr17) (an (by omega : (0 : Int) ≤ 1) (an (by omega : 1 ≤ ((s1.2.length : Nat) : Int)) (an (by omega : ((s1.2.length : Nat) : Int) ≤ ((s1.2.length : Nat) : Int)) (an (by omega : (r17.length + (Fp s1.2.length 1)) * 8 ≤ 140737488355328) tv))))))) (by kernel_rfl) (.cons rfl (MLe.ownLen (enc := Bm) (d := 0) (f := (Cp r17.length (elI r17) (shF 1 (elI s1.2)))) (RowIs.cat RowIs.elems (RowIs.elems.drop (Nw _ _) (by omega)))) .nil) (.cons rfl (BLe.typed (RowIs.cat RowIs.elems (RowIs.elems.drop (Nw _ _) (by omega)))) .nil) ?_
    refine DW.done ?_
    show DW _ _ _ _ _
    exact jD ((s1.1 ++ [(s1.2.getD 0 0)]),(r17 ++ (s1.2.drop 1))) hm (Conv.frz [1272])
   ·intro h13 hm
    refine DW.exit ?_
    refine Ao ?_
    refine Au ?_
    refine Am ?_
    show DW _ _ _ _ _
    refine Sq (RK hnt (nn 2 []) [(4,ow 1232 s1.1.length)] [(1232,ob0 (roI s1.1))] tv ?_)
    obtain rfl := sj hm
    exact DW.ret (Ah [roI s1.1] [1232] (ow 0 s1.1.length))
abbrev o28 (ks : List Nat) (b : Bool) (RES : List Int) (sm : List Nat := []) : Orc := .call 173 ks b (ow 0 RES.length) [] [roI RES] sm

theorem Ace (p0 : List Int) (p1 : Int) (RES : Int) (hm : Oe p0 p1 = some RES) : Spec Tryz.prog 186 [.p (slI p0),pI p1] [] (pI RES) [] [] := by
 unfold Oe at hm
 refine SO Tryz.func186 rfl rfl [(0,.p (slI p0)),(1,pI p1)] [] ?_
 intro cx hnt
 refine Sq (RD hnt (.no :: []) [] [] [] [] tv ?_)
 refine Sq (Sq (RD hnt (nn 3 []) [] [(7,pI ((p0.length : Nat) : Int)),(8,pI 0)] [] [] tv ?_))
 refine Bk ?_
 obtain ⟨hc1,hm⟩ := go1 hm
 refine DW.rangeO (fun (k1 : Nat) (s1 : Unit) => Aj [(0,.p (slI p0)),(1,pI p1),(7,pI ((p0.length : Nat) : Int)),(8,pI ((k1 : Nat) : Int))] []) 0 hm Conv.eqK ?_
 intro k1 s1 n1 hk1 hs1 he1
 refine Sq (RD hnt (.no :: []) [] [(9,pB (decide (((k1 : Nat) : Int) < ((p0.length : Nat) : Int))))] [] [] tv ?_)
 refine Sq (Cb (decide (((k1 : Nat) : Int) < ((p0.length : Nat) : Int))) ?_ ?_)
 ·intro h7
  have hlt1 : k1 < p0.length := by have := of_decide_eq_true h7; omega
  have hm := hs1 hlt1
  unfold Xc at hm
  refine Sk ?_
  refine Sq (Bk ?_)
  refine Sq (RD hnt (nn 2 []) [9] [(5,pI ((k1 : Nat) : Int))] [] [] tv ?_)
  refine Sq (RD hnt (nn 6 []) [] [(16,pB (p1 == (p0.getD k1 0)))] [] [] (an (nn0 k1) (an (ltc hlt1) tv)) ?_)
  refine Ae hm ?_ ?_
  ·intro h8 hm
   refine Sq (RK hnt (nn 2 []) [(4,pI ((k1 : Nat) : Int))] [] tv ?_)
   obtain rfl := sj hm
   exact DW.ret (Ah [] [] (pI ((k1 : Nat) : Int)))
  ·intro h8 hm
   refine Sk ?_
   refine DW.done ?_
   show DW _ _ _ _ _
   refine RD hnt (nn 2 []) [5,16] [(8,pI (w64 (((k1 : Nat) : Int) + 1)))] [] [] tv ?_
   exact jD () ⟨hlt1,hm⟩ (Conv.tp [(8,pI (w64 (((k1 : Nat) : Int) + 1)))] [] (by kernel_rfl) (.cons rfl (.of_eq (congrArg pI (Bl hlt1 hc1))) .nil) .nil)
 ·intro h7
  have hge1 : ¬ k1 < p0.length := by have := of_decide_eq_false h7; omega
  have hm := he1 hge1
  unfold Wp at hm
  refine DW.exit ?_
  refine Ao ?_
  refine Au ?_
  refine Am ?_
  show DW _ _ _ _ _
  refine Sq (RK hnt (.no :: []) [(4,pI (-1))] [] tv ?_)
  obtain rfl := sj hm
  exact DW.ret (Ah [] [] (pI (-1)))
abbrev o31 (ks : List Nat) (b : Bool) (RES : Int) (sm : List Nat := []) : Orc := .call 186 ks b (pI RES) [] [] sm

theorem Gt (p0 : List Int) (p1 : Int) (RES : Bool) (hm : Fz p0 p1 = some RES) : Spec Tryz.prog 127 [.p (slI p0),pI p1] [] (pB RES) [] [] := by
 unfold Fz at hm
 refine SO Tryz.func127 rfl rfl [(0,.p (slI p0)),(1,pI p1)] [] ?_
 intro cx hnt
 refine Sq (RD hnt (.no :: []) [] [] [] [] tv ?_)
 obtain ⟨r1,hr1,hm⟩ := bo hm
 refine Sq (RK hnt (nn 2 (o31 [] true r1 :: nn 2 [])) [(4,pB (decide (r1 ≥ 0)))] [] (an (Ace p0 p1 r1 hr1) tv) ?_)
 obtain rfl := sj hm
 exact DW.ret (Ah [] [] (pB (decide (r1 ≥ 0))))
abbrev o30 (ks : List Nat) (b : Bool) (RES : Bool) (sm : List Nat := []) : Orc := .call 127 ks b (pB RES) [] [] sm

theorem Ek (p0 : Ac) (p1 : Int) (RES : Bool) (hm : Gq p0 p1 = some RES) : Spec Tryz.prog 58 [.p (.agg (Al p0)),pI p1] [] (pB RES) [] [] := by
 unfold Gq at hm
 refine SO Tryz.func58 rfl rfl [(0,.p (.agg (Al p0))),(1,pI p1)] [] ?_
 intro cx hnt
 refine Sq (RK hnt (nn 2 []) [(1,pI p1),(2,rr 1016)] [(1016,bx (pm (Al p0)))] tv ?_)
 obtain ⟨r1,hr1,hm⟩ := bo hm
 refine Sq (RK hnt (nn 3 (o30 [] true r1 :: .no :: [])) [(4,pB r1)] [] (an (Gt p0.stopped p1 r1 hr1) tv) ?_)
 obtain rfl := sj hm
 exact DW.ret (Ah [] [] (pB r1))
abbrev o32 (ks : List Nat) (b : Bool) (RES : Bool) (sm : List Nat := []) : Orc := .call 58 ks b (pB RES) [] [] sm

theorem Aay (p0 : Aa) (p1 : Ac) (p2 : Int) (RES : Bool) (hm : Mu p0 p1 p2 = some RES) : Spec Tryz.prog 141 [.p (.agg (Ab p0)),.p (.agg (Al p1)),pI p2] [] (pB RES) [] [] := by
 unfold Mu at hm
 refine SO Tryz.func141 rfl rfl [(0,.p (.agg (Ab p0))),(1,.p (.agg (Al p1))),(2,pI p2)] [] ?_
 intro cx hnt
 refine Sq (RK hnt (nn 3 []) [(2,pI p2),(3,rr 1024),(4,rr 1032)] [(1024,bx (pm (Ab p0))),(1032,bx (pm (Al p1)))] tv ?_)
 obtain ⟨r1,hr1,hm⟩ := bo hm
 refine Sq (Sq (RD hnt (nn 4 (o23 [] true r1 :: .no :: [])) [] [(15,pB (!r1))] [] [] (an (Jk p0.tree p1 p2 r1 hr1) tv) ?_))
 refine Ae hm ?_ ?_
 ·intro h2 hm
  refine Sq (RK hnt (.no :: []) [(6,pB false)] [] tv ?_)
  obtain rfl := sj hm
  exact DW.ret (Ah [] [] (pB false))
 ·intro h2 hm
  refine Sk ?_
  obtain ⟨r3,hr3,hm⟩ := bo hm
  refine Sq (RD hnt (nn 3 (o28 [] true r3 :: .no :: [])) [2,15] [(7,ow 1152 r3.length)] [] [(1152,ob0 (roI r3))] (an (Adu p0.tree p2 r3 hr3) tv) ?_)
  refine Sq (Sq (RD hnt (nn 4 []) [3] [(21,.p (Bb p0.tasks)),(22,pI ((p0.tasks.length : Nat) : Int)),(23,pI 0)] [1024] [] tv ?_))
  refine Bk ?_
  obtain ⟨hc1,hm⟩ := go1 hm
  refine DW.rangeO (fun (k1 : Nat) (s1 : Unit) => Aj [(4,rr 1032),(7,ow 1152 r3.length),(21,.p (Bb p0.tasks)),(22,pI ((p0.tasks.length : Nat) : Int)),(23,pI ((k1 : Nat) : Int))] [(1032,bx (pm (Al p1))),(1152,ob0 (roI r3))]) Bt hm Conv.eqK ?_
  intro k1 s1 n1 hk1 hs1 he1
  refine Sq (RD hnt (.no :: []) [] [(24,pB (decide (((k1 : Nat) : Int) < ((p0.tasks.length : Nat) : Int))))] [] [] tv ?_)
  refine Sq (Cb (decide (((k1 : Nat) : Int) < ((p0.tasks.length : Nat) : Int))) ?_ ?_)
  ·intro h16
   have hlt1 : k1 < p0.tasks.length := by have := of_decide_eq_true h16; omega
   have hm := hs1 hlt1
   unfold Xp at hm
   refine Sk ?_
   refine Sq (Bk ?_)
   refine Sq (RD hnt (nn 4 []) [24] [(9,rr 1072)] [] [(1072,bx (pm (Ay (p0.tasks.getD k1 (default : Aw)))))] (an (nn0 k1) (an (ltc hlt1) tv)) ?_)
   obtain ⟨r17,hr17,hm⟩ := bo hm
   refine Sq ?_
   refine Jn (ι := Bool) (fun (y3 : Bool) => Aj [(4,rr 1032),(7,ow 1152 r3.length),(21,.p (Bb p0.tasks)),(22,pI ((p0.tasks.length : Nat) : Int)),(23,pI ((k1 : Nat) : Int)),(37,pB y3)] [(1032,bx (pm (Al p1))),(1152,ob0 (roI r3))]) (fun y3 => (Pg n1) y3 = some RES) ?_ ?_
   ·intro y3 hm
    unfold Pg at hm
    refine Ae hm ?_ ?_
    ·intro h20 hm
     refine Sq (RK hnt (.no :: []) [(6,pB false)] [] tv ?_)
     obtain rfl := sj hm
     exact DW.ret (Ah [] [] (pB false))
    ·intro h20 hm
     refine Sk ?_
     refine DW.done ?_
     show DW _ _ _ _ _
     refine RD hnt (nn 2 []) [37] [(23,pI (w64 (((k1 : Nat) : Int) + 1)))] [] [] tv ?_
     exact jD () ⟨hlt1,hm⟩ (Conv.tp [(23,pI (w64 (((k1 : Nat) : Int) + 1)))] [] (by kernel_rfl) (.cons rfl (.of_eq (congrArg pI (Bl hlt1 hc1))) .nil) .nil)
   ·rcases bt r17 with h18 | h18
    ·replace hm := Bf h18 hm
     obtain ⟨r19,hr19,hm⟩ := bo hm
     refine RD hnt (nn 3 (o30 [] true r17 :: nn 4 (o32 [] true r19 :: .no :: pT :: []))) [9] [(37,pB (!r19))] [1072] [] (an (Gt r3 (p0.tasks.getD k1 (default : Aw)).group r17 hr17) (an4 h18 (an (Ek p1 (p0.tasks.getD k1 (default : Aw)).id r19 hr19) (an2 h18 tv)))) ?_
     exact jD (!r19) hm Conv.eqK
    ·replace hm := Be h18 hm
     refine RD hnt (nn 3 (o30 [] true r17 :: .no :: sk 5 (pF :: []))) [9] [(37,pB false)] [1072] [] (an (Gt r3 (p0.tasks.getD k1 (default : Aw)).group r17 hr17) (an6 h18 tv)) ?_
     exact jD false hm Conv.eqK
  ·intro h16
   have hge1 : ¬ k1 < p0.tasks.length := by have := of_decide_eq_false h16; omega
   have hm := he1 hge1
   unfold Acx at hm
   refine DW.exit ?_
   refine Ao ?_
   refine Au ?_
   refine Am ?_
   show DW _ _ _ _ _
   refine Sq (RK hnt (.no :: []) [(6,pB true)] [] tv ?_)
   obtain rfl := sj hm
   exact DW.ret (Ah [] [] (pB true))
abbrev o27 (ks : List Nat) (b : Bool) (RES : Bool) (sm : List Nat := []) : Orc := .call 141 ks b (pB RES) [] [] sm

abbrev Aca (p0 : Aa) : Nat × Obj := (1016,bx (pm (Ab p0)))
abbrev AbY (p1 : Ac) : Nat × Obj := (1024,bx (pm (Al p1)))
abbrev c21e3 (p1 : Ac) (k1 : Nat) := (p1.frosts.getD k1 (default : Ai))
theorem Sz (p0 : Aa) (p1 : Ac) (RES : Bool) (hm : Lj p0 p1 = some RES) : Spec Tryz.prog 66 [.p (.agg (Ab p0)),.p (.agg (Al p1))] [] (pB RES) [] [] := by
 unfold Lj at hm
 refine SO Tryz.func66 rfl rfl [(0,.p (.agg (Ab p0))),(1,.p (.agg (Al p1)))] [] ?_
 intro cx hnt
 refine Sq (RK hnt (nn 3 []) [(2,rr 1016),(3,rr 1024)] [(Aca p0),(AbY p1)] tv ?_)
 obtain ⟨r1,hr1,hm⟩ := bo hm
 refine Sq (Sq ?_)
 refine Jn (ι := Bool) (fun (y1 : Bool) => Aj [(2,rr 1016),(3,rr 1024),(23,pB y1)] [(Aca p0),(AbY p1)]) (fun y1 => (Nx p0 p1) y1 = some RES) ?_ ?_
 ·intro y1 hm
  unfold Nx at hm
  refine Ae hm ?_ ?_
  ·intro h3 hm
   refine Sq (RK hnt (.no :: []) [(4,pB false)] [] tv ?_)
   obtain rfl := sj hm
   exact DW.ret (Ah [] [] (pB false))
  ·intro h3 hm
   refine Sk ?_
   refine Sq (Sq (RD hnt (nn 4 []) [23] [(25,.p (Ec p1.frosts)),(26,pI ((p1.frosts.length : Nat) : Int)),(27,pI 0)] [] [] tv ?_))
   refine Bk ?_
   obtain ⟨hc1,hm⟩ := go1 hm
   refine DW.rangeO (fun (k1 : Nat) (s1 : Unit) => Aj [(2,rr 1016),(3,rr 1024),(25,.p (Ec p1.frosts)),(26,pI ((p1.frosts.length : Nat) : Int)),(27,pI ((k1 : Nat) : Int))] [(Aca p0),(AbY p1)]) Bh hm Conv.eqK ?_
   intro k1 s1 n1 hk1 hs1 he1
   refine Sq (RD hnt (.no :: []) [] [(28,pB (decide (((k1 : Nat) : Int) < ((p1.frosts.length : Nat) : Int))))] [] [] tv ?_)
   refine Sq (Cb (decide (((k1 : Nat) : Int) < ((p1.frosts.length : Nat) : Int))) ?_ ?_)
   ·intro h97
    have hlt1 : k1 < p1.frosts.length := by have := of_decide_eq_true h97; omega
    have hm := hs1 hlt1
    unfold Vn at hm
    refine Sk ?_
    refine Sq (Bk ?_)
    refine Sq (RD hnt (nn 6 []) [28] [(5,pI ((k1 : Nat) : Int)),(6,rr 1048)] [] [(1048,bx (pm (Bd (c21e3 p1 k1))))] (an (nn0 k1) (an (ltc hlt1) tv)) ?_)
    obtain ⟨g98,hm⟩ := go1 hm
    refine Sq ?_
    refine Jn (ι := Bool) (fun (y10 : Bool) => Aj [(2,rr 1016),(3,rr 1024),(25,.p (Ec p1.frosts)),(26,pI ((p1.frosts.length : Nat) : Int)),(27,pI ((k1 : Nat) : Int)),(51,pB y10)] [(Aca p0),(AbY p1)]) (fun y10 => (Kf n1) y10 = some RES) ?_ ?_
    ·intro y10 hm
     unfold Kf at hm
     refine Ae hm ?_ ?_
     ·intro h102 hm
      refine Sq (RK hnt (.no :: []) [(4,pB false)] [] tv ?_)
      obtain rfl := sj hm
      exact DW.ret (Ah [] [] (pB false))
     ·intro h102 hm
      refine Sk ?_
      refine DW.done ?_
      show DW _ _ _ _ _
      refine RD hnt (nn 2 []) [51] [(27,pI (w64 (((k1 : Nat) : Int) + 1)))] [] [] tv ?_
      exact jD () ⟨hlt1,hm⟩ (Conv.tp [(27,pI (w64 (((k1 : Nat) : Int) + 1)))] [] (by kernel_rfl) (.cons rfl (.of_eq (congrArg pI (Bl hlt1 hc1))) .nil) .nil)
    ·rcases bt ((c21e3 p1 k1).group != (p0.tree.nodes.getD k1 Bj).id) with h99 | h99
     ·replace hm := Bf h99 hm
      refine RD hnt (nn 11 (sk 3 (pT :: .no :: sk 3 (pT :: [])))) [5,6] [(51,pB true)] [1048] [] (an (nn0 k1) (an (ltc g98) (an4 h99 (an4 tt tv)))) ?_
      exact jD true hm Conv.eqK
     ·replace hm := Be h99 hm
      rcases bt (decide ((c21e3 p1 k1).changes < 0)) with h100 | h100
      ·replace hm := Bf h100 hm
       refine RD hnt (nn 14 (pF :: .no :: sk 3 (pT :: []))) [5,6] [(51,pB true)] [1048] [] (an (nn0 k1) (an (ltc g98) (an4 h99 (an4 h100 tv)))) ?_
       exact jD true hm Conv.eqK
      ·replace hm := Be h100 hm
       refine RD hnt (nn 14 (pF :: nn 4 (pF :: []))) [5,6] [(51,pB (decide ((c21e3 p1 k1).changes > 1099511627776)))] [1048] [] (an (nn0 k1) (an (ltc g98) (an4 h99 (an4 h100 tv)))) ?_
       exact jD (decide ((c21e3 p1 k1).changes > 1099511627776)) hm Conv.eqK
   ·intro h97
    have hge1 : ¬ k1 < p1.frosts.length := by have := of_decide_eq_false h97; omega
    have hm := he1 hge1
    unfold Vg at hm
    refine DW.exit ?_
    refine Ao ?_
    refine Au ?_
    refine Am ?_
    show DW _ _ _ _ _
    refine Sq (Sq (RD hnt (nn 4 []) [25,26,27,28] [(54,.p (slI p1.stopped)),(55,pI ((p1.stopped.length : Nat) : Int)),(56,pI 0)] [] [] tv ?_))
    refine Bk ?_
    obtain ⟨hc10,hm⟩ := go1 hm
    refine DW.rangeO (fun (k10 : Nat) (s10 : Unit) => Aj [(2,rr 1016),(3,rr 1024),(54,.p (slI p1.stopped)),(55,pI ((p1.stopped.length : Nat) : Int)),(56,pI ((k10 : Nat) : Int))] [(Aca p0),(AbY p1)]) 0 hm Conv.eqK ?_
    intro k10 s10 n10 hk10 hs10 he10
    refine Sq (RD hnt (.no :: []) [] [(57,pB (decide (((k10 : Nat) : Int) < ((p1.stopped.length : Nat) : Int))))] [] [] tv ?_)
    refine Sq (Cb (decide (((k10 : Nat) : Int) < ((p1.stopped.length : Nat) : Int))) ?_ ?_)
    ·intro h141
     have hlt10 : k10 < p1.stopped.length := by have := of_decide_eq_true h141; omega
     have hm := hs10 hlt10
     unfold Ux at hm
     refine Sk ?_
     refine Sq (Bk ?_)
     refine Sq (RD hnt (nn 5 []) [57] [(7,pI ((k10 : Nat) : Int)),(8,pI (p1.stopped.getD k10 0))] [] [] (an (nn0 k10) (an (ltc hlt10) tv)) ?_)
     refine Sq ?_
     refine Jn (ι := Bool) (fun (y13 : Bool) => Aj [(2,rr 1016),(3,rr 1024),(54,.p (slI p1.stopped)),(55,pI ((p1.stopped.length : Nat) : Int)),(56,pI ((k10 : Nat) : Int)),(79,pB y13)] [(Aca p0),(AbY p1)]) (fun y13 => (Ii n10) y13 = some RES) ?_ ?_
     ·intro y13 hm
      unfold Ii at hm
      refine Ae hm ?_ ?_
      ·intro h147 hm
       refine Sq (RK hnt (.no :: []) [(4,pB false)] [] tv ?_)
       obtain rfl := sj hm
       exact DW.ret (Ah [] [] (pB false))
      ·intro h147 hm
       refine Sk ?_
       refine DW.done ?_
       show DW _ _ _ _ _
       refine RD hnt (nn 2 []) [79] [(56,pI (w64 (((k10 : Nat) : Int) + 1)))] [] [] tv ?_
       exact jD () ⟨hlt10,hm⟩ (Conv.tp [(56,pI (w64 (((k10 : Nat) : Int) + 1)))] [] (by kernel_rfl) (.cons rfl (.of_eq (congrArg pI (Bl hlt10 hc10))) .nil) .nil)
     ·rcases bt (decide (((k10 : Nat) : Int) > 0)) with h142 | h142
      ·replace hm := Bf h142 hm
       obtain ⟨g143,hm⟩ := go1 hm
       rcases bt (decide ((p1.stopped.getD k10 0) ≤ (p1.stopped.getD (Int.toNat (w64 (((k10 : Nat) : Int) - 1))) 0))) with h144 | h144
       ·replace hm := Bf h144 hm
        refine RD hnt (nn 11 (pT :: .no :: sk 5 (pT :: []))) [7,8] [(79,pB true)] [] [] (an6 h142 (an g143.1 (an g143.2 (an3 h142 (an6 h144 tv))))) ?_
        exact jD true hm Conv.eqK
       ·replace hm := Be h144 hm
        obtain ⟨r145,hr145,hm⟩ := bo hm
        refine RD hnt (nn 11 (pT :: nn 4 (o22 [] true r145 :: .no :: pF :: []))) [7,8] [(79,pB (!r145))] [] [] (an6 h142 (an g143.1 (an g143.2 (an3 h142 (an4 h144 (an (Rt p0 p1 (p1.stopped.getD k10 0) r145 hr145) (an2 h144 tv))))))) ?_
        exact jD (!r145) hm Conv.eqK
      ·replace hm := Be h142 hm
       obtain ⟨r146,hr146,hm⟩ := bo hm
       refine RD hnt (nn 3 (sk 8 (pF :: nn 4 (o22 [] true r146 :: .no :: pF :: [])))) [7,8] [(79,pB (!r146))] [] [] (an3 h142 (an6 h142 (an4 ff (an (Rt p0 p1 (p1.stopped.getD k10 0) r146 hr146) (an2 ff tv))))) ?_
       exact jD (!r146) hm Conv.eqK
    ·intro h141
     have hge10 : ¬ k10 < p1.stopped.length := by have := of_decide_eq_false h141; omega
     have hm := he10 hge10
     unfold Tm at hm
     refine DW.exit ?_
     refine Ao ?_
     refine Au ?_
     refine Am ?_
     show DW _ _ _ _ _
     refine Sq (Sq (RD hnt (nn 4 []) [54,55,56,57] [(82,.p (Ec p1.frosts)),(83,pI ((p1.frosts.length : Nat) : Int)),(84,pI 0)] [] [] tv ?_))
     refine Bk ?_
     obtain ⟨hc13,hm⟩ := go1 hm
     refine DW.rangeO (fun (k13 : Nat) (s13 : Unit) => Aj [(2,rr 1016),(3,rr 1024),(82,.p (Ec p1.frosts)),(83,pI ((p1.frosts.length : Nat) : Int)),(84,pI ((k13 : Nat) : Int))] [(Aca p0),(AbY p1)]) Bh hm Conv.eqK ?_
     intro k13 s13 n13 hk13 hs13 he13
     refine Sq (RD hnt (.no :: []) [] [(85,pB (decide (((k13 : Nat) : Int) < ((p1.frosts.length : Nat) : Int))))] [] [] tv ?_)
     refine Sq (Cb (decide (((k13 : Nat) : Int) < ((p1.frosts.length : Nat) : Int))) ?_ ?_)
     ·intro h156
      have hlt13 : k13 < p1.frosts.length := by have := of_decide_eq_true h156; omega
      have hm := hs13 hlt13
      unfold Uo at hm
      refine Sk ?_
      refine Sq (Bk ?_)
      refine Sq (RD hnt (nn 4 []) [85] [(10,rr 1080)] [] [(1080,bx (pm (Bd (p1.frosts.getD k13 (default : Ai)))))] (an (nn0 k13) (an (ltc hlt13) tv)) ?_)
      obtain ⟨r157,hr157,hm⟩ := bo hm
      refine Sq (RD hnt (nn 6 (o27 [] true r157 :: .no :: [])) [10] [(95,pB ((p1.frosts.getD k13 (default : Ai)).frozen != r157))] [1080] [] (an (Aay p0 p1 (p1.frosts.getD k13 (default : Ai)).group r157 hr157) tv) ?_)
      refine Ae hm ?_ ?_
      ·intro h158 hm
       refine Sq (RK hnt (.no :: []) [(4,pB false)] [] tv ?_)
       obtain rfl := sj hm
       exact DW.ret (Ah [] [] (pB false))
      ·intro h158 hm
       refine Sk ?_
       refine DW.done ?_
       show DW _ _ _ _ _
       refine RD hnt (nn 2 []) [95] [(84,pI (w64 (((k13 : Nat) : Int) + 1)))] [] [] tv ?_
       exact jD () ⟨hlt13,hm⟩ (Conv.tp [(84,pI (w64 (((k13 : Nat) : Int) + 1)))] [] (by kernel_rfl) (.cons rfl (.of_eq (congrArg pI (Bl hlt13 hc13))) .nil) .nil)
     ·intro h156
      have hge13 : ¬ k13 < p1.frosts.length := by have := of_decide_eq_false h156; omega
      have hm := he13 hge13
      unfold Aam at hm
      refine DW.exit ?_
      refine Ao ?_
      refine Au ?_
      refine Am ?_
      show DW _ _ _ _ _
      refine Sq (RK hnt (.no :: []) [(4,pB true)] [] tv ?_)
      obtain rfl := sj hm
      exact DW.ret (Ah [] [] (pB true))
 ·rcases bt (!r1) with h2 | h2
  ·replace hm := Bf h2 hm
   refine RD hnt (.no :: o6 [] true r1 :: nn 2 (sk 8 (pT :: []))) [] [(23,pB true)] [] [] (an (Od p0 r1 hr1) (an3 h2 (an6 h2 tv))) ?_
   exact jD true hm Conv.eqK
  ·replace hm := Be h2 hm
   refine RD hnt (.no :: o6 [] true r1 :: nn 10 (pF :: [])) [] [(23,pB (((p1.frosts.length : Nat) : Int) != ((p0.tree.nodes.length : Nat) : Int)))] [] [] (an (Od p0 r1 hr1) (an3 h2 (an6 h2 tv))) ?_
   exact jD (((p1.frosts.length : Nat) : Int) != ((p0.tree.nodes.length : Nat) : Int)) hm Conv.eqK
abbrev o21 (ks : List Nat) (b : Bool) (RES : Bool) (sm : List Nat := []) : Orc := .call 66 ks b (pB RES) [] [] sm

theorem Afp (p0 : Ai) (p1 : Int) (RES : Bool) (hm : Aaa p0 p1 = some RES) : Spec Tryz.prog 122 [.p (.agg (Bd p0)),rr 0] [.box [pI p1]] (pB RES) [.box [pI p1]] [] := by
 unfold Aaa at hm
 refine SO Tryz.func122 rfl rfl [(0,.p (.agg (Bd p0))),(1,rr 0)] [(0,bx [pI p1])] ?_
 intro cx hnt
 refine Sq (RD hnt (nn 2 []) [0] [(2,rr 1016)] [] [(1016,bx (pm (Bd p0)))] tv ?_)
 refine Sq (RK hnt (nn 5 []) [(3,pB (p0.group == p1))] [(0,bx [pI p1])] tv ?_)
 obtain rfl := sj hm
 exact DW.ret (Ah [.box [pI p1]] [] (pB (p0.group == p1)))

theorem Pd (p0 : List Ai) (p1c0 : Int) (RES : Int) (hm : Gm p0 p1c0 = some RES) : Spec Tryz.prog 121 [.p (Ec p0),.fn 122 [rr 0]] [.box [pI p1c0]] (pI RES) [.box [pI p1c0]] [] := by
 unfold Gm at hm
 refine SO Tryz.func121 rfl rfl [(0,.p (Ec p0)),(1,.fn 122 [rr 0])] [(0,bx [pI p1c0])] ?_
 intro cx hnt
 refine Sq (RD hnt (.no :: []) [] [] [] [] tv ?_)
 refine Sq (Sq (RD hnt (nn 3 []) [] [(7,pI ((p0.length : Nat) : Int)),(8,pI 0)] [] [] tv ?_))
 refine Bk ?_
 obtain ⟨hc1,hm⟩ := go1 hm
 refine DW.rangeO (fun (k1 : Nat) (s1 : Unit) => Aj [(0,.p (Ec p0)),(1,.fn 122 [rr 0]),(7,pI ((p0.length : Nat) : Int)),(8,pI ((k1 : Nat) : Int))] [(0,bx [pI p1c0])]) Bh hm Conv.eqK ?_
 intro k1 s1 n1 hk1 hs1 he1
 refine Sq (RD hnt (.no :: []) [] [(9,pB (decide (((k1 : Nat) : Int) < ((p0.length : Nat) : Int))))] [] [] tv ?_)
 refine Sq (Cb (decide (((k1 : Nat) : Int) < ((p0.length : Nat) : Int))) ?_ ?_)
 ·intro h9
  have hlt1 : k1 < p0.length := by have := of_decide_eq_true h9; omega
  have hm := hs1 hlt1
  unfold Jl at hm
  refine Sk ?_
  refine Sq (Bk ?_)
  refine Sq (RD hnt (nn 2 []) [9] [(5,pI ((k1 : Nat) : Int))] [] [] tv ?_)
  obtain ⟨r10,hr10,hm⟩ := bo hm
  refine Sq (RD hnt (nn 5 (.call 122 [0] true (pB r10) [.box [pI p1c0]] [] [] :: [])) [] [(16,pB r10)] [] [] (an (nn0 k1) (an (ltc hlt1) (an (Afp (p0.getD k1 (default : Ai)) p1c0 r10 hr10) (an tv tv)))) ?_)
  refine Ae hm ?_ ?_
  ·intro h11 hm
   refine Sq (RK hnt (nn 2 []) [(4,pI ((k1 : Nat) : Int))] [(0,bx [pI p1c0])] tv ?_)
   obtain rfl := sj hm
   exact DW.ret (Ah [.box [pI p1c0]] [] (pI ((k1 : Nat) : Int)))
  ·intro h11 hm
   refine Sk ?_
   refine DW.done ?_
   show DW _ _ _ _ _
   refine RD hnt (nn 2 []) [5,16] [(8,pI (w64 (((k1 : Nat) : Int) + 1)))] [] [] tv ?_
   exact jD () ⟨hlt1,hm⟩ (Conv.tp [(8,pI (w64 (((k1 : Nat) : Int) + 1)))] [] (by kernel_rfl) (.cons rfl (.of_eq (congrArg pI (Bl hlt1 hc1))) .nil) .nil)
 ·intro h9
  have hge1 : ¬ k1 < p0.length := by have := of_decide_eq_false h9; omega
  have hm := he1 hge1
  unfold Jm at hm
  refine DW.exit ?_
  refine Ao ?_
  refine Au ?_
  refine Am ?_
  show DW _ _ _ _ _
  refine Sq (RK hnt (.no :: []) [(4,pI (-1))] [(0,bx [pI p1c0])] tv ?_)
  obtain rfl := sj hm
  exact DW.ret (Ah [.box [pI p1c0]] [] (pI (-1)))

theorem Zx (p0 : List Ai) (RES : List Ai) (hm : Jw p0 = some RES) : Spec Tryz.prog 183 [.p (.sl .nn 4 p0.length (elems Bd (default : Ai) p0))] [] (ow 0 RES.length) [] [Af RES] := by
 unfold Jw at hm
 refine SO Tryz.func183 rfl rfl [(0,.p (.sl .nn 4 p0.length (elems Bd (default : Ai) p0)))] [] ?_
 intro cx hnt
 refine Sq (RD hnt (.no :: []) [] [] [] [] tv ?_)
 refine Sq (Sq (RD hnt (nn 2 []) [] [(4,pB false)] [] [] tv ?_))
 refine condF ff ?_
 refine Sk ?_
 obtain ⟨g1,hm⟩ := go1 hm
 refine Sq (RN hnt (nn 4 []) [(2,ow 1040 p0.length)] [(1040,ob0 (Af p0))] [(2,ow 1040 (0 + p0.length))] [(1040,.row 4 (0 + p0.length) (Cp 0 (cut 4 []) (Kg p0)))] (an (by omega : (0 + p0.length) * 24 ≤ 140737488355328) tv) (by kernel_rfl) (.cons rfl (MLe.ownLen (enc := Bd) (d := Bh) (f := (Cp 0 (cut 4 []) (Kg p0))) (RowIs.cat RowIs.nil RowIs.elems)) .nil) (.cons rfl (BLe.typed (RowIs.cat RowIs.nil RowIs.elems)) .nil) ?_)
 obtain rfl := sj hm
 exact DW.ret (Ah [Af p0] [1040] (ow 0 p0.length))

theorem Yk (p0 : List Ai) (RES : List Ai) (hm : Mw p0 = some RES) : Spec Tryz.prog 183 [.p (.sl .nil 4 0 (elems Bd (default : Ai) p0))] [] (ow 0 RES.length) [] [Af RES] := by
 unfold Mw at hm
 refine SO Tryz.func183 rfl rfl [(0,.p (.sl .nil 4 0 (elems Bd (default : Ai) p0)))] [] ?_
 intro cx hnt
 refine Sq (RD hnt (.no :: []) [] [] [] [] tv ?_)
 refine Sq (Sq (RD hnt (nn 2 []) [] [(4,pB true)] [] [] tv ?_))
 refine condT tt ?_
 refine Sq (RK hnt (.no :: []) [(2,.p (.sl .nil 0 0 (fun _ => [])))] [] tv ?_)
 refine DW.cv [] [(2,ow 100000 0)] [] [(100000,ob0 (Af []))] (Conv.ads [(.s 2,100000,4,elems Bd Bh [])]) ?_
 obtain rfl := sj hm
 exact DW.ret (Ah [Af []] [100000] (ow 0 0))

theorem Abd (p0 : List Ai) (RES : List Ai) (hm : Jw p0 = some RES) : Spec Tryz.prog 183 [.p (Ec p0)] [] (ow 0 RES.length) [] [Af RES] :=
  Spec.unk (fun h => Yk p0 RES (by have e : p0 = [] := List.eq_nil_of_length_eq_zero h; subst e; simpa [Jw,Mw] using hm)) (Zx p0 RES hm)
abbrev o36 (ks : List Nat) (b : Bool) (RES : List Ai) (sm : List Nat := []) : Orc := .call 183 ks b (ow 0 RES.length) [] [Af RES] sm

theorem AaU (p0 : List Int) (RES : List Int) (hm : Gj p0 = some RES) : Spec Tryz.prog 117 [.p (.sl .nn 1 p0.length (elems Bm 0 p0))] [] (ow 0 RES.length) [] [roI RES] := by
 unfold Gj at hm
 refine SO Tryz.func117 rfl rfl [(0,.p (.sl .nn 1 p0.length (elems Bm 0 p0)))] [] ?_
 intro cx hnt
 refine Sq (RD hnt (.no :: []) [] [] [] [] tv ?_)
 refine Sq (Sq (RD hnt (nn 2 []) [] [(4,pB false)] [] [] tv ?_))
 refine condF ff ?_
 refine Sk ?_
 obtain ⟨g1,hm⟩ := go1 hm
 refine Sq (RN hnt (nn 4 []) [(2,ow 1040 p0.length)] [(1040,ob0 (roI p0))] [(2,ow 1040 (0 + p0.length))] [(1040,.row 1 (0 + p0.length) (Cp 0 (cut 1 []) (elI p0)))] (an (by omega : (0 + p0.length) * 8 ≤ 140737488355328) tv) (by kernel_rfl) (.cons rfl (MLe.ownLen (enc := Bm) (d := 0) (f := (Cp 0 (cut 1 []) (elI p0))) (RowIs.cat RowIs.nil RowIs.elems)) .nil) (.cons rfl (BLe.typed (RowIs.cat RowIs.nil RowIs.elems)) .nil) ?_)
 obtain rfl := sj hm
 exact DW.ret (Ah [roI p0] [1040] (ow 0 p0.length))

theorem Aal (p0 : List Int) (RES : List Int) (hm : Pt p0 = some RES) : Spec Tryz.prog 117 [.p (.sl .nil 1 0 (elems Bm 0 p0))] [] (ow 0 RES.length) [] [roI RES] := by
 unfold Pt at hm
 refine SO Tryz.func117 rfl rfl [(0,.p (.sl .nil 1 0 (elems Bm 0 p0)))] [] ?_
 intro cx hnt
 refine Sq (RD hnt (.no :: []) [] [] [] [] tv ?_)
 refine Sq (Sq (RD hnt (nn 2 []) [] [(4,pB true)] [] [] tv ?_))
 refine condT tt ?_
 refine Sq (RK hnt (.no :: []) [(2,.p (.sl .nil 0 0 (fun _ => [])))] [] tv ?_)
 refine DW.cv [] [(2,ow 100000 0)] [] [(100000,ob0 (roI []))] (Conv.ads [(.s 2,100000,1,elems Bm 0 [])]) ?_
 obtain rfl := sj hm
 exact DW.ret (Ah [roI []] [100000] (ow 0 0))

theorem Ug (p0 : List Int) (RES : List Int) (hm : Gj p0 = some RES) : Spec Tryz.prog 117 [.p (slI p0)] [] (ow 0 RES.length) [] [roI RES] :=
  Spec.unk (fun h => Aal p0 RES (by have e : p0 = [] := List.eq_nil_of_length_eq_zero h; subst e; simpa [Gj,Pt] using hm)) (AaU p0 RES hm)
abbrev o37 (ks : List Nat) (b : Bool) (RES : List Int) (sm : List Nat := []) : Orc := .call 117 ks b (ow 0 RES.length) [] [roI RES] sm

theorem Aap (p0 : Aa) (p1 : Ac) (RES : freezer) (hm : Wd p0 p1 = some RES) : Spec Tryz.prog 123 [.p (.agg (Ab p0)),.p (.agg (Al p1))] [] (rr 0) [] [.box [.p (Az RES.h.tree.nodes),pI RES.h.tree.next,.p (Bb RES.h.tasks),pI RES.h.next,ow 1 RES.f.frosts.length,ow 2 RES.f.stopped.length],Af RES.f.frosts,roI RES.f.stopped] := by
 unfold Wd at hm
 refine SO Tryz.func123 rfl rfl [(0,.p (.agg (Ab p0))),(1,.p (.agg (Al p1)))] [] ?_
 intro cx hnt
 refine Sq (RK hnt (nn 3 []) [(2,rr 1016),(3,rr 1024)] [(1016,bx (pm (Ab p0))),(1024,bx (pm (Al p1)))] tv ?_)
 obtain ⟨r1,hr1,hm⟩ := bo hm
 obtain ⟨r2,hr2,hm⟩ := bo hm
 refine Sq (RK hnt (nn 3 (o36 [] true r1 :: nn 2 (o37 [] true r2 :: nn 4 []))) [(4,rr 1112)] [(1064,ob0 (Af r1)),(1088,ob0 (roI r2)),(1112,bx [.p (Az p0.tree.nodes),pI p0.tree.next,.p (Bb p0.tasks),pI p0.next,ow 1064 r1.length,ow 1088 r2.length])] (an (Abd p1.frosts r1 hr1) (an (Ug p1.stopped r2 hr2) tv)) ?_)
 obtain rfl := sj hm
 exact DW.ret (Ah [.box [.p (Az p0.tree.nodes),pI p0.tree.next,.p (Bb p0.tasks),pI p0.next,ow 1 r1.length,ow 2 r2.length],Af r1,roI r2] [1112,1064,1088] (rr 0))
abbrev o35 (ks : List Nat) (b : Bool) (RES : freezer) (sm : List Nat := []) : Orc := .call 123 ks b (rr 0) [] [.box [.p (Az RES.h.tree.nodes),pI RES.h.tree.next,.p (Bb RES.h.tasks),pI RES.h.next,ow 1 RES.f.frosts.length,ow 2 RES.f.stopped.length],Af RES.f.frosts,roI RES.f.stopped] sm

theorem Ow (p0 : Int) (p1 : freezer) (RES : Bool) (hm : Fw p0 p1 = some RES) : Spec Tryz.prog 185 [pI p0,rr 0] [.box [rr 1],.box [.p (Az p1.h.tree.nodes),pI p1.h.tree.next,.p (Bb p1.h.tasks),pI p1.h.next,ow 2 p1.f.frosts.length,ow 3 p1.f.stopped.length],Af p1.f.frosts,roI p1.f.stopped] (pB RES) [.box [rr 1],.box [.p (Az p1.h.tree.nodes),pI p1.h.tree.next,.p (Bb p1.h.tasks),pI p1.h.next,ow 2 p1.f.frosts.length,ow 3 p1.f.stopped.length],Af p1.f.frosts,roI p1.f.stopped] [] := by
 unfold Fw at hm
 refine SO Tryz.func185 rfl rfl [(0,pI p0),(1,rr 0)] [(0,bx [rr 1]),(1,bx [.p (Az p1.h.tree.nodes),pI p1.h.tree.next,.p (Bb p1.h.tasks),pI p1.h.next,ow 2 p1.f.frosts.length,ow 3 p1.f.stopped.length]),(2,ob0 (Af p1.f.frosts)),(3,ob0 (roI p1.f.stopped))] ?_
 intro cx hnt
 refine Sq (RD hnt (.no :: []) [] [] [] [] tv ?_)
 obtain ⟨r1,hr1,hm⟩ := bo hm
 refine Sq (RD hnt (nn 9 (o22 [] true r1 :: nn 2 [])) [0,1] [(3,pB (!r1))] [] [] (an (Rt p1.h p1.f p0 r1 hr1) tv) ?_)
 obtain rfl := sj hm
 exact DW.ret (Ah [.box [rr 1],.box [.p (Az p1.h.tree.nodes),pI p1.h.tree.next,.p (Bb p1.h.tasks),pI p1.h.next,ow 2 p1.f.frosts.length,ow 3 p1.f.stopped.length],Af p1.f.frosts,roI p1.f.stopped] [] (pB (!r1)))

abbrev c40e1 (p1c0 : freezer) (p0 : List Int) : Nat × Obj := (2,bx [.p (Az p1c0.h.tree.nodes),pI p1c0.h.tree.next,.p (Bb p1c0.h.tasks),pI p1c0.h.next,ow 3 p1c0.f.frosts.length,ow 0 p0.length])
theorem Ly (p0 : List Int) (p1c0 : freezer) (RES : Int) (hm : Da p0 p1c0 = some RES) : Spec Tryz.prog 226 [ow 0 p0.length,.fn 185 [rr 1]] [roI p0,.box [rr 2],.box [.p (Az p1c0.h.tree.nodes),pI p1c0.h.tree.next,.p (Bb p1c0.h.tasks),pI p1c0.h.next,ow 3 p1c0.f.frosts.length,ow 0 p0.length],Af p1c0.f.frosts] (pI RES) [roI p0,.box [rr 2],.box [.p (Az p1c0.h.tree.nodes),pI p1c0.h.tree.next,.p (Bb p1c0.h.tasks),pI p1c0.h.next,ow 3 p1c0.f.frosts.length,ow 0 p0.length],Af p1c0.f.frosts] [] := by
 unfold Da at hm
 refine SO Tryz.func226 rfl rfl [(0,ow 0 p0.length),(1,.fn 185 [rr 1])] [(0,ob0 (roI p0)),(1,bx [rr 2]),(c40e1 p1c0 p0),(3,ob0 (Af p1c0.f.frosts))] ?_
 intro cx hnt
 refine Sq (RD hnt (.no :: []) [] [] [] [] tv ?_)
 refine Sq (Sq (RD hnt (nn 3 []) [] [(7,pI ((p0.length : Nat) : Int)),(8,pI 0)] [] [] tv ?_))
 refine Bk ?_
 obtain ⟨hc1,hm⟩ := go1 hm
 refine DW.rangeO (fun (k1 : Nat) (s1 : Unit) => Aj [(0,ow 0 p0.length),(1,.fn 185 [rr 1]),(7,pI ((p0.length : Nat) : Int)),(8,pI ((k1 : Nat) : Int))] [(0,ob0 (roI p0)),(1,bx [rr 2]),(c40e1 p1c0 p0),(3,ob0 (Af p1c0.f.frosts))]) 0 hm Conv.eqK ?_
 intro k1 s1 n1 hk1 hs1 he1
 refine Sq (RD hnt (.no :: []) [] [(9,pB (decide (((k1 : Nat) : Int) < ((p0.length : Nat) : Int))))] [] [] tv ?_)
 refine Sq (Cb (decide (((k1 : Nat) : Int) < ((p0.length : Nat) : Int))) ?_ ?_)
 ·intro h11
  have hlt1 : k1 < p0.length := by have := of_decide_eq_true h11; omega
  have hm := hs1 hlt1
  unfold Ej at hm
  refine Sk ?_
  refine Sq (Bk ?_)
  refine Sq (RD hnt (nn 2 []) [9] [(5,pI ((k1 : Nat) : Int))] [] [] tv ?_)
  obtain ⟨r12,hr12,hm⟩ := bo hm
  refine Sq (RD hnt (nn 5 (.call 185 [1,2,3,0] true (pB r12) [.box [rr 1],.box [.p (Az p1c0.h.tree.nodes),pI p1c0.h.tree.next,.p (Bb p1c0.h.tasks),pI p1c0.h.next,ow 2 p1c0.f.frosts.length,ow 3 p0.length],Af p1c0.f.frosts,roI p0] [] [] :: [])) [] [(16,pB r12)] [] [] (an (nn0 k1) (an (ltc hlt1) (an (by omega : k1 < p0.length) (an (Ow (p0.getD k1 0) ({ h := p1c0.h,f := ({ frosts := p1c0.f.frosts,stopped := p0 } : Ac) } : freezer) r12 hr12) (an2 tv (an (⟨rfl,rfl⟩ : Body.same (Af p1c0.f.frosts) (Af p1c0.f.frosts)) (an (⟨rfl,rfl⟩ : Body.same (roI p0) (roI p0)) tv))))))) ?_)
  refine Ae hm ?_ ?_
  ·intro h13 hm
   refine Sq (RD hnt (nn 2 []) [0,1,5,7,8,16] [(4,pI ((k1 : Nat) : Int))] [] [] tv ?_)
   obtain rfl := sj hm
   exact DW.ret (Ah [roI p0,.box [rr 2],.box [.p (Az p1c0.h.tree.nodes),pI p1c0.h.tree.next,.p (Bb p1c0.h.tasks),pI p1c0.h.next,ow 3 p1c0.f.frosts.length,ow 0 p0.length],Af p1c0.f.frosts] [] (pI ((k1 : Nat) : Int)))
  ·intro h13 hm
   refine Sk ?_
   refine DW.done ?_
   show DW _ _ _ _ _
   refine RD hnt (nn 2 []) [5,16] [(8,pI (w64 (((k1 : Nat) : Int) + 1)))] [] [] tv ?_
   exact jD () ⟨hlt1,hm⟩ (Conv.tp [(8,pI (w64 (((k1 : Nat) : Int) + 1)))] [] (by kernel_rfl) (.cons rfl (.of_eq (congrArg pI (Bl hlt1 hc1))) .nil) .nil)
 ·intro h11
  have hge1 : ¬ k1 < p0.length := by have := of_decide_eq_false h11; omega
  have hm := he1 hge1
  unfold Gy at hm
  refine DW.exit ?_
  refine Ao ?_
  refine Au ?_
  refine Am ?_
  show DW _ _ _ _ _
  refine Sq (RD hnt (.no :: []) [0,1,7,8,9] [(4,pI (-1))] [] [] tv ?_)
  obtain rfl := sj hm
  exact DW.ret (Ah [roI p0,.box [rr 2],.box [.p (Az p1c0.h.tree.nodes),pI p1c0.h.tree.next,.p (Bb p1c0.h.tasks),pI p1c0.h.next,ow 3 p1c0.f.frosts.length,ow 0 p0.length],Af p1c0.f.frosts] [] (pI (-1)))

abbrev c39e1 (s1 : (List Int) × Int × Int) := (Ki s1.1 (Int.toNat s1.2.1) (Fp s1.1.length (Int.toNat s1.2.1)) 0)
abbrev Xy (s1 : (List Int) × Int × Int) := (s1.1.getD (Int.toNat s1.2.2) 0)
abbrev c39e3 (p1c0 : freezer) (s1 : (List Int) × Int × Int) : Nat × Body := (2,.box [.p (Az p1c0.h.tree.nodes),pI p1c0.h.tree.next,.p (Bb p1c0.h.tasks),pI p1c0.h.next,ow 3 p1c0.f.frosts.length,ow 0 s1.1.length])
abbrev c39e4 (p1c0 : freezer) : Nat × Obj := (3,ob0 (Af p1c0.f.frosts))
abbrev c39e5 (s1 : (List Int) × Int × Int) := (s1.1.set (Int.toNat s1.2.1) (Xy s1))
theorem Lk (p0 : List Int) (p1c0 : freezer) (RES : Nat × (List Int) × freezer) (hm : Cg p0 p1c0 = some RES) : Spec Tryz.prog 184 [ow 0 p0.length,.fn 185 [rr 1]] [roI p0,.box [rr 2],.box [.p (Az p1c0.h.tree.nodes),pI p1c0.h.tree.next,.p (Bb p1c0.h.tasks),pI p1c0.h.next,ow 3 p1c0.f.frosts.length,ow 0 p0.length],Af p1c0.f.frosts] (ow 0 RES.1) [roI RES.2.1,.box [rr 2],.box [.p (Az RES.2.2.h.tree.nodes),pI RES.2.2.h.tree.next,.p (Bb RES.2.2.h.tasks),pI RES.2.2.h.next,ow 3 RES.2.2.f.frosts.length,ow 0 RES.2.1.length],Af RES.2.2.f.frosts] [] := by
 unfold Cg at hm
 refine SO Tryz.func184 rfl rfl [(0,ow 0 p0.length),(1,.fn 185 [rr 1])] [(0,ob0 (roI p0)),(1,bx [rr 2]),(2,bx [.p (Az p1c0.h.tree.nodes),pI p1c0.h.tree.next,.p (Bb p1c0.h.tasks),pI p1c0.h.next,ow 3 p1c0.f.frosts.length,ow 0 p0.length]),(c39e4 p1c0)] ?_
 intro cx hnt
 refine Sq (RD hnt (.no :: []) [] [] [] [] tv ?_)
 obtain ⟨r1,hr1,hm⟩ := bo hm
 refine Sq (RD hnt (nn 2 (.call 226 [0,1,2,3] true (pI r1) [roI p0,.box [rr 2],.box [.p (Az p1c0.h.tree.nodes),pI p1c0.h.tree.next,.p (Bb p1c0.h.tasks),pI p1c0.h.next,ow 3 p1c0.f.frosts.length,ow 0 p0.length],Af p1c0.f.frosts] [] [] :: .no :: [])) [] [(5,pI r1)] [] [] (an (Ly p0 ({ h := p1c0.h,f := ({ frosts := p1c0.f.frosts,stopped := p0 } : Ac) } : freezer) r1 hr1) (an (⟨rfl,rfl⟩ : Body.same (roI p0) (roI p0)) (an2 tv (an (⟨rfl,rfl⟩ : Body.same (Af p1c0.f.frosts) (Af p1c0.f.frosts)) tv)))) ?_)
 refine Sq (Sq (RD hnt (nn 2 []) [] [(12,pB (r1 == (-1)))] [] [] tv ?_))
 refine Ae hm ?_ ?_
 ·intro h2 hm
  refine Sq (RD hnt (nn 2 []) [0,1,5,12] [(4,ow 0 p0.length)] [] [] tv ?_)
  obtain rfl := sj hm
  exact DW.ret (Ah [roI p0,.box [rr 2],.box [.p (Az p1c0.h.tree.nodes),pI p1c0.h.tree.next,.p (Bb p1c0.h.tasks),pI p1c0.h.next,ow 3 p1c0.f.frosts.length,ow 0 p0.length],Af p1c0.f.frosts] [] (ow 0 p0.length))
 ·intro h2 hm
  refine Sk ?_
  refine Sq (Sq (RD hnt (nn 3 []) [12] [(6,pI (w64 (r1 + 1)))] [] [] tv ?_))
  refine Bk ?_
  refine DW.whileO (fun (s1 : (List Int) × Int × Int) => Aj [(0,ow 0 s1.1.length),(1,.fn 185 [rr 1]),(5,pI s1.2.1),(6,pI s1.2.2)] [(0,ob0 (roI s1.1)),(1,bx [rr 2]),(2,bx [.p (Az p1c0.h.tree.nodes),pI p1c0.h.tree.next,.p (Bb p1c0.h.tasks),pI p1c0.h.next,ow 3 p1c0.f.frosts.length,ow 0 s1.1.length]),(c39e4 p1c0)]) hm Conv.eqK ?_
  intro s1 n1 hm
  unfold Cr at hm
  refine Sq (Sq (RD hnt (nn 4 []) [] [(19,pB (decide (s1.2.2 < ((s1.1.length : Nat) : Int))))] [] [] tv ?_))
  refine Ae hm ?_ ?_
  ·intro h13 hm
   refine Sk ?_
   refine Sq ?_
   refine Jn (ι := (List Int) × Int) (fun (y2 : (List Int) × Int) => Aj [(0,ow 0 y2.1.length),(1,.fn 185 [rr 1]),(5,pI y2.2),(6,pI s1.2.2)] [(0,ob0 (roI y2.1)),(1,bx [rr 2]),(2,bx [.p (Az p1c0.h.tree.nodes),pI p1c0.h.tree.next,.p (Bb p1c0.h.tasks),pI p1c0.h.next,ow 3 p1c0.f.frosts.length,ow 0 y2.1.length]),(c39e4 p1c0)]) (fun y2 => (Cd s1 n1) y2 = some RES) ?_ ?_
   ·intro y2 hm
    unfold Cd at hm
    refine RD hnt (nn 3 []) [] [(6,pI (w64 (s1.2.2 + 1)))] [] [] tv ?_
    exact jD (y2.1,y2.2,(w64 (s1.2.2 + 1))) hm Conv.eqK
   ·refine Bk ?_
    obtain ⟨g14,g15,hm⟩ := go2 hm
    refine Sq (RD hnt (nn 5 []) [19] [(7,pI (Xy s1))] [] [] (an g14.1 (an g14.2 (an g15 tv))) ?_)
    obtain ⟨r16,hr16,hm⟩ := bo hm
    refine Sq (RD hnt (nn 2 (.call 185 [1,2,3,0] true (pB r16) [.box [rr 1],.box [.p (Az p1c0.h.tree.nodes),pI p1c0.h.tree.next,.p (Bb p1c0.h.tasks),pI p1c0.h.next,ow 2 p1c0.f.frosts.length,ow 3 s1.1.length],Af p1c0.f.frosts,roI s1.1] [] [] :: .no :: [])) [] [(29,pB (!r16))] [] [] (an (Ow (Xy s1) ({ h := p1c0.h,f := ({ frosts := p1c0.f.frosts,stopped := s1.1 } : Ac) } : freezer) r16 hr16) (an2 tv (an (⟨rfl,rfl⟩ : Body.same (Af p1c0.f.frosts) (Af p1c0.f.frosts)) (an (⟨rfl,rfl⟩ : Body.same (roI s1.1) (roI s1.1)) tv)))) ?_)
    refine Ae hm ?_ ?_
    ·intro h17 hm
     obtain ⟨g18,g19,hm⟩ := go2 hm
     refine Sq (RN hnt (nn 5 []) [(0,ow 0 (c39e5 s1).length),(1,.fn 185 [rr 1]),(5,pI s1.2.1),(6,pI s1.2.2)] [(0,ob0 (roI (c39e5 s1))),(1,bx [rr 2]),(2,bx [.p (Az p1c0.h.tree.nodes),pI p1c0.h.tree.next,.p (Bb p1c0.h.tasks),pI p1c0.h.next,ow 3 p1c0.f.frosts.length,ow 0 (c39e5 s1).length]),(c39e4 p1c0)] [(0,ow 0 s1.1.length)] [(0,.row 1 s1.1.length (Cc (elI s1.1) (Int.toNat s1.2.1) [vi (Xy s1)])),(c39e3 p1c0 s1)] (an g18.1 (an g18.2 (an g19 tv))) (by kernel_rfl) (.cons rfl (MLe.ownLen (enc := Bm) (d := 0) (f := (Cc (elI s1.1) (Int.toNat s1.2.1) [vi (Xy s1)])) (RowIs.upd RowIs.elems (Xy s1) rfl)) .nil) (.cons rfl (BLe.typed (RowIs.upd RowIs.elems (Xy s1) rfl)) (.cons rfl (.box (.cons .rfl (.cons .rfl (.cons .rfl (.cons .rfl (.cons .rfl (.cons (MLe.ownLen (enc := Bm) (d := 0) (f := (Cc (elI s1.1) (Int.toNat s1.2.1) [vi (Xy s1)])) (RowIs.upd RowIs.elems (Xy s1) rfl)) .nil))))))) .nil)) ?_)
     refine RD hnt (nn 3 []) [] [(5,pI (w64 (s1.2.1 + 1)))] [] [] tv ?_
     exact bD ((c39e5 s1),(w64 (s1.2.1 + 1))) hm Conv.eqK
    ·intro h17 hm
     refine Sk ?_
     exact bD (s1.1,s1.2.1) hm Conv.t0
  ·intro h13 hm
   refine DW.exit ?_
   refine Ao ?_
   refine Au ?_
   refine Am ?_
   show DW _ _ _ _ _
   obtain ⟨g20,g21,hm⟩ := go2 hm
   refine Sq (RN hnt (nn 4 []) [(0,ow 0 (c39e1 s1).length),(5,pI s1.2.1)] [(0,ob0 (roI (c39e1 s1))),(1,bx [rr 2]),(2,bx [.p (Az p1c0.h.tree.nodes),pI p1c0.h.tree.next,.p (Bb p1c0.h.tasks),pI p1c0.h.next,ow 3 p1c0.f.frosts.length,ow 0 (c39e1 s1).length]),(c39e4 p1c0)] [(0,ow 0 s1.1.length)] [(0,.row 1 s1.1.length (Lv (elI s1.1) (Int.toNat s1.2.1) (Fp s1.1.length (Int.toNat s1.2.1)) (fun _ => [vi 0]))),(c39e3 p1c0 s1)] (an (by omega : (0 : Int) ≤ s1.2.1) (an (by omega : s1.2.1 ≤ ((s1.1.length : Nat) : Int)) (an (by omega : ((s1.1.length : Nat) : Int) ≤ ((s1.1.length : Nat) : Int)) (an g21 tv)))) (by kernel_rfl) (.cons rfl (MLe.ownLen (enc := Bm) (d := 0) (f := (Lv (elI s1.1) (Int.toNat s1.2.1) (Fp s1.1.length (Int.toNat s1.2.1)) (fun _ => [vi 0]))) (RowIs.fill RowIs.elems 0 rfl (by first | exact g21 | omega))) .nil) (.cons rfl (BLe.typed (RowIs.fill RowIs.elems 0 rfl (by first | exact g21 | omega))) (.cons rfl (.box (.cons .rfl (.cons .rfl (.cons .rfl (.cons .rfl (.cons .rfl (.cons (MLe.ownLen (enc := Bm) (d := 0) (f := (Lv (elI s1.1) (Int.toNat s1.2.1) (Fp s1.1.length (Int.toNat s1.2.1)) (fun _ => [vi 0]))) (RowIs.fill RowIs.elems 0 rfl (by first | exact g21 | omega))) .nil))))))) .nil)) ?_)
   obtain ⟨g22,hm⟩ := go1 hm
   refine Sq (RD hnt (nn 4 []) [0,5] [(4,ow 0 (Int.toNat s1.2.1))] [] [] (an (by omega : (0 : Int) ≤ 0) (an (by omega : (0 : Int) ≤ s1.2.1) (an (by omega : s1.2.1 ≤ (((Ki s1.1 (Int.toNat s1.2.1) (Fp s1.1.length (Int.toNat s1.2.1)) 0).length : Nat) : Int)) tv))) ?_)
   obtain rfl := sj hm
   exact DW.ret (Ah [roI (c39e1 s1),.box [rr 2],.box [.p (Az p1c0.h.tree.nodes),pI p1c0.h.tree.next,.p (Bb p1c0.h.tasks),pI p1c0.h.next,ow 3 p1c0.f.frosts.length,ow 0 (c39e1 s1).length],Af p1c0.f.frosts] [] (ow 0 (Int.toNat s1.2.1)))
abbrev o39 (ks : List Nat) (b : Bool) (RES : Nat × (List Int) × freezer) (sm : List Nat := []) : Orc := .call 184 ks b (ow 0 RES.1) [roI RES.2.1,.box [rr 2],.box [.p (Az RES.2.2.h.tree.nodes),pI RES.2.2.h.tree.next,.p (Bb RES.2.2.h.tasks),pI RES.2.2.h.next,ow 3 RES.2.2.f.frosts.length,ow 0 RES.2.1.length],Af RES.2.2.f.frosts] [] sm
end Go.Dm

