/- Texts of the proof of CpusetPlain: the data machine, the models of the Go functions, their contracts. -/
import Derived.Test.YtkkeddafdmjhlaaCpusetPlainA2
import Derived.Test.YtkkeddafdmjhlaaCpusetPlainA1
import Derived.Test.YtkkeddafdmjhlaaProg
set_option linter.unusedVariables false
set_option linter.unusedSimpArgs false
/- Plain theory, part 29: the library's sort sorts. -/
namespace Go.Dm
theorem kand_le {x y : Int} (h0 : 0 ≤ y) (h1 : y < 18446744073709551616) : 0 ≤ kand .u64 x y ∧ kand .u64 x y ≤ y := by
 unfold kand
 have hb : IntKind.u64.bits = 64 := rfl
 rw [hb]
 obtain ⟨n,rfl⟩ : ∃ n : Nat,y = (n : Int) := ⟨y.toNat,by omega⟩
 have hn : n < 2 ^ 64 := by omega
 have hle : (BitVec.ofInt 64 x &&& BitVec.ofInt 64 (n : Int)).toNat ≤ n := by
  rw [BitVec.toNat_and]
  refine Nat.le_trans Nat.and_le_right ?_
  rw [BitVec.ofInt_natCast,BitVec.toNat_ofNat]
  exact Nat.mod_le _ _
 have hw : IntKind.u64.wrap (((BitVec.ofInt 64 x &&& BitVec.ofInt 64 (n : Int)).toNat : Nat) : Int) = (((BitVec.ofInt 64 x &&& BitVec.ofInt 64 (n : Int)).toNat : Nat) : Int) := by
  generalize (BitVec.ofInt 64 x &&& BitVec.ofInt 64 (n : Int)).toNat = q at *
  have : IntKind.u64.wrap (q : Int) = (q : Int) % 18446744073709551616 := rfl
  rw [this]
  omega
 rw [hw]
 omega
theorem pow2_all : (List.range 1001).all (fun n => (Gm (n : Int)).any (fun k => n == 0 || (decide ((n : Int) < k) && decide (k ≤ 2 * (n : Int)) && (IntKind.u64.wrap (k - 1) == k - 1)))) = true := by decide +kernel
theorem pow2_ok {n : Nat} (h0 : 0 < n) (hn : n ≤ 1000) : Ok (Gm (n : Int)) (fun k => (n : Int) < k ∧ k ≤ 2 * (n : Int) ∧ IntKind.u64.wrap (k - 1) = k - 1) := by
 have := List.all_eq_true.mp pow2_all n (by rw [List.mem_range]; omega)
 cases hb : Gm (n : Int) with
 | none => rw [hb] at this; simp at this
 | some k =>
  rw [hb] at this
  simp only [Option.any_some,Bool.or_eq_true,beq_iff_eq,Bool.and_eq_true,decide_eq_true_eq] at this
  rcases this with h | ⟨⟨h1,h2⟩,h3⟩
  ·omega
  ·exact ⟨k,rfl,h1,h2,h3⟩
def InR (a b : Nat) (x : Int) : Prop := ∃ n : Nat,x = (n : Int) ∧ a ≤ n ∧ n < b
theorem AaL {L : List Int} {a b : Nat} (hb : b ≤ L.length) {x y : Int} (hx : InR a b x) (hy : InR a b y) (c : Int) : Ok (Ee L x y c) (fun r => InR a b r.1 ∧ InR a b r.2.1) := by
 obtain ⟨n,rfl,n1,n2⟩ := hx
 obtain ⟨m,rfl,m1,m2⟩ := hy
 unfold Ee
 refine Ok.guard (by omega) (Ok.guard (by omega) ?_)
 refine Ok.step (Jq _ _) ?_
 exact Ok.ite (fun _ => Ok.ret ⟨⟨m,rfl,m1,m2⟩,⟨n,rfl,n1,n2⟩⟩) fun _ => Ok.ret ⟨⟨n,rfl,n1,n2⟩,⟨m,rfl,m1,m2⟩⟩
theorem AdQ {L : List Int} {a b : Nat} (hb : b ≤ L.length) {x y z : Int} (hx : InR a b x) (hy : InR a b y) (hz : InR a b z) (c : Int) : Ok (Fk L x y z c) (fun r => InR a b r.1) := by
 unfold Fk
 refine Ok.bind (AaL hb hx hy c) fun r ⟨r1,r2⟩ => ?_
 refine Ok.bind (AaL hb r2 hz _) fun s ⟨s1,s2⟩ => ?_
 refine Ok.bind (AaL hb r1 s1 _) fun t ⟨t1,t2⟩ => ?_
 exact Ok.ret t2
theorem Yb {L : List Int} {a b : Nat} (hb : b ≤ L.length) (hl : L.length ≤ 1000000) {n : Nat} (n1 : a + 1 ≤ n) (n2 : n + 1 < b) (c : Int) : Ok (Cn L (n : Int) c) (fun r => InR a b r.1) := by
 unfold Cn
 have e1 : w64 ((n : Int) - 1) = ((n - 1 : Nat) : Int) := by
  rw [Ao (by omega) (by omega)]
  omega
 have e2 : w64 ((n : Int) + 1) = ((n + 1 : Nat) : Int) := by
  rw [Ao (by omega) (by omega)]
  omega
 rw [e1,e2]
 refine Ok.bind (AdQ (a := a) (b := b) hb ⟨n - 1,rfl,by omega,by omega⟩ ⟨n,rfl,by omega,by omega⟩ ⟨n + 1,rfl,by omega,by omega⟩ c) fun r hr => ?_
 exact Ok.ret hr
theorem Adl {L : List Int} {a b : Nat} (hab : a + 12 < b) (hb : b ≤ L.length) (hl : L.length ≤ 1000000) : Ok (Fg L (a : Int) (b : Int)) (fun r => InR a b r.1) := by
 unfold Fg
 have wn : w64 ((b : Int) - (a : Int)) = ((b - a : Nat) : Int) := by
  rw [Ao (by omega) (by omega)]
  omega
 have wq : w64 (Int.tdiv ((b - a : Nat) : Int) 4) = (((b - a) / 4 : Nat) : Int) := by
  rw [Int.tdiv_eq_ediv_of_nonneg (by omega),Ao (by omega) (by omega)]
  omega
 rw [wn,wq]
 have hq : 3 ≤ (b - a) / 4 := by omega
 have hq2 : 4 * ((b - a) / 4) ≤ b - a := by omega
 generalize (b - a) / 4 = q at *
 have m1 : w64 ((a : Int) + w64 ((q : Int) * 1)) = ((a + q : Nat) : Int) := by
  rw [Ao (n := (q : Int) * 1) (by omega) (by omega),Ao (by omega) (by omega)]
  omega
 have m2 : w64 ((a : Int) + w64 ((q : Int) * 2)) = ((a + 2 * q : Nat) : Int) := by
  rw [Ao (n := (q : Int) * 2) (by omega) (by omega),Ao (by omega) (by omega)]
  omega
 have m3 : w64 ((a : Int) + w64 ((q : Int) * 3)) = ((a + 3 * q : Nat) : Int) := by
  rw [Ao (n := (q : Int) * 3) (by omega) (by omega),Ao (by omega) (by omega)]
  omega
 rw [m1,m2,m3]
 have hJ1 : ∀ y : Int × Int,InR a b y.2 → Ok (Dh y) (fun r => InR a b r.1) := by
  intro y hy
  unfold Dh
  exact Ok.ite (fun _ => Ok.ret hy) fun _ => Ok.ite (fun _ => Ok.ret hy) fun _ => Ok.ret hy
 have hJ2 : ∀ y : Int × Int × Int × Int,InR a b y.2.1 → InR a b y.2.2.1 → InR a b y.2.2.2 → Ok (Dg L y) (fun r => InR a b r.1) := by
  intro y h1 h2 h3
  unfold Dg
  exact Ok.bind (AdQ hb h1 h2 h3 _) fun r hr => hJ1 _ hr
 refine Ok.ite (fun _ => ?_) fun c => ?_
 ·refine Ok.ite (fun c => ?_) fun _ => ?_
  ·have := of_decide_eq_true c
   refine Ok.bind (Yb (a := a) (b := b) (n := a + q) hb hl (by omega) (by omega) 0) fun r hr => ?_
   refine Ok.bind (Yb (a := a) (b := b) (n := a + 2 * q) hb hl (by omega) (by omega) _) fun s hs => ?_
   refine Ok.bind (Yb (a := a) (b := b) (n := a + 3 * q) hb hl (by omega) (by omega) _) fun t ht => ?_
   exact hJ2 _ hr hs ht
  ·exact hJ2 _ ⟨_,rfl,by omega,by omega⟩ ⟨_,rfl,by omega,by omega⟩ ⟨_,rfl,by omega,by omega⟩
 ·exact hJ1 _ ⟨_,rfl,by omega,by omega⟩
theorem Agi {L : List Int} {a b : Nat} (hab : a < b) (hb : b ≤ L.length) (hl : L.length ≤ 1000000) : Ok (Ex L (a : Int) (b : Int)) (fun M => RP a b L M) := by
 unfold Ex
 have wb : w64 ((b : Int) - 1) = ((b - 1 : Nat) : Int) := by
  rw [Ao (by omega) (by omega)]
  omega
 rw [wb]
 refine Ok.while (fun s => ∃ i j : Nat,s.2.1 = (i : Int) ∧ s.2.2 = (j : Int) ∧ a ≤ i ∧ j < b ∧ i ≤ j + 1 ∧ RP a b L s.1) (fun s => (s.2.2 + 1 - s.2.1).toNat) ⟨a,b - 1,rfl,rfl,Nat.le_refl _,by omega,by omega,.refl _ _ _⟩ (by rw [Ev]; simp only; omega) ?_
 rintro ⟨M,x,y⟩ n ⟨i,j,hx,hy,h1,h2,h3,rp⟩ hn
 simp only at hx hy rp
 subst hx hy
 have hM := rp.len
 have ei : Int.toNat (i : Int) = i := by omega
 have ej : Int.toNat (j : Int) = j := by omega
 unfold Hq
 simp only
 rw [ei,ej]
 refine Ok.ite (fun c => ?_) fun _ => Ok.ret rp
 have c := of_decide_eq_true c
 have w1 : w64 ((i : Int) + 1) = ((i + 1 : Nat) : Int) := by
  rw [Ao (by omega) (by omega)]
  omega
 have w2 : w64 ((j : Int) - 1) = ((j - 1 : Nat) : Int) := by
  rw [Ao (by omega) (by omega)]
  omega
 rw [w1,w2]
 refine Ok.guard (by omega) (Ok.guard (by omega) (Ok.guard (by omega) (Ok.guard (by omega) (Ok.guard (by omega) (Ok.guard (by omega) (Ok.guard (by omega) (Ok.guard (by omega) ?_)))))))
 exact hn (Ed M i j,_,_) ⟨i + 1,j - 1,rfl,rfl,by omega,by omega,by omega,rp.trans (RP.swap (by omega) (by omega) (by omega) (by omega) (by omega))⟩ (by simp only; omega)
theorem break_ok {L : List Int} {a b : Nat} (hab : a + 12 < b) (hb : b ≤ L.length) (hl : L.length ≤ 1000) : Ok (Eo L (a : Int) (b : Int)) (fun M => RP a b L M) := by
 unfold Eo
 have wn : w64 ((b : Int) - (a : Int)) = ((b - a : Nat) : Int) := by
  rw [Ao (by omega) (by omega)]
  omega
 rw [wn]
 refine Ok.ite (fun _ => ?_) fun _ => Ok.ret (.refl _ _ _)
 refine Ok.bind (pow2_ok (n := b - a) (by omega) (by omega)) fun k ⟨k1,k2,k3⟩ => ?_
 have wq : w64 (Int.tdiv ((b - a : Nat) : Int) 4) = (((b - a) / 4 : Nat) : Int) := by
  rw [Int.tdiv_eq_ediv_of_nonneg (by omega),Ao (by omega) (by omega)]
  omega
 rw [wq]
 have hq : 3 ≤ (b - a) / 4 := by omega
 have hq2 : 4 * ((b - a) / 4) ≤ b - a := by omega
 generalize hqd : (b - a) / 4 = q at *
 have m2 : w64 ((a : Int) + w64 ((q : Int) * 2)) = ((a + 2 * q : Nat) : Int) := by
  rw [Ao (n := (q : Int) * 2) (by omega) (by omega),Ao (by omega) (by omega)]
  omega
 have m3 : w64 (((a + 2 * q : Nat) : Int) - 1) = ((a + 2 * q - 1 : Nat) : Int) := by
  rw [Ao (by omega) (by omega)]
  omega
 have m4 : w64 (((a + 2 * q : Nat) : Int) + 1) = ((a + 2 * q + 1 : Nat) : Int) := by
  rw [Ao (by omega) (by omega)]
  omega
 rw [m2,m3]
 refine Ok.while (fun s => ∃ i : Nat,s.2.2 = (i : Int) ∧ a ≤ i ∧ i ≤ a + 2 * q + 2 ∧ RP a b L s.1) (fun s => ((a + 2 * q + 2 : Nat) : Int).toNat - s.2.2.toNat) ⟨a + 2 * q - 1,rfl,by omega,by omega,.refl _ _ _⟩ (by rw [Ev]; simp only; omega) ?_
 rintro ⟨M,r,x⟩ n ⟨i,hx,i1,i2,rp⟩ hn
 simp only at hx rp
 subst hx
 have hM := rp.len
 have ei : Int.toNat (i : Int) = i := by omega
 unfold Hl
 simp only
 rw [wn,wq,m2,m4]
 refine Ok.ite (fun c => ?_) fun _ => Ok.ret rp
 have c := of_decide_eq_true c
 unfold Kg
 refine Ok.step rfl ?_
 simp only
 rw [k3]
 have hkl := kand_le (x := (kxor .u64 (kxor .u64 (kxor .u64 r (kshl .u64 r 13)) (kshr .u64 (kxor .u64 r (kshl .u64 r 13)) 7)) (kshl .u64 (kxor .u64 (kxor .u64 r (kshl .u64 r 13)) (kshr .u64 (kxor .u64 r (kshl .u64 r 13)) 7)) 17))) (y := k - 1) (by omega) (by omega)
 generalize kand .u64 (kxor .u64 (kxor .u64 (kxor .u64 r (kshl .u64 r 13)) (kshr .u64 (kxor .u64 r (kshl .u64 r 13)) 7)) (kshl .u64 (kxor .u64 (kxor .u64 r (kshl .u64 r 13)) (kshr .u64 (kxor .u64 r (kshl .u64 r 13)) 7)) 17)) (k - 1) = z at *
 generalize kxor .u64 (kxor .u64 (kxor .u64 r (kshl .u64 r 13)) (kshr .u64 (kxor .u64 r (kshl .u64 r 13)) 7)) (kshl .u64 (kxor .u64 (kxor .u64 r (kshl .u64 r 13)) (kshr .u64 (kxor .u64 r (kshl .u64 r 13)) 7)) 17) = r'
 have hJ : ∀ o : Nat,o < b - a → Ok (Da (a : Int) (M,r,(i : Int)) n (r',r') (o : Int)) (fun M => RP a b L M) := by
  intro o ho
  unfold Da
  simp only
  have e1 : w64 ((a : Int) + (o : Int)) = ((a + o : Nat) : Int) := by
   rw [Ao (by omega) (by omega)]
   omega
  have e2 : Int.toNat ((a + o : Nat) : Int) = a + o := by omega
  have e3 : w64 ((i : Int) + 1) = ((i + 1 : Nat) : Int) := by
   rw [Ao (by omega) (by omega)]
   omega
  rw [e1,e2,e3,ei]
  refine Ok.guard (by omega) (Ok.guard (by omega) (Ok.guard (by omega) (Ok.guard (by omega) (Ok.guard (by omega) (Ok.guard (by omega) (Ok.guard (by omega) (Ok.guard (by omega) ?_)))))))
  exact hn (Ed M i (a + o),_,_) ⟨i + 1,rfl,by omega,by omega,rp.trans (RP.swap (by omega) (by omega) (by omega) (by omega) (by omega))⟩ (by simp only; omega)
 have hz : w64 z = z := Ao (by omega) (by omega)
 rw [hz]
 refine Ok.ite (fun c2 => ?_) fun c2 => ?_
 ·have c2 := of_decide_eq_true c2
  have e : w64 (z - ((b - a : Nat) : Int)) = ((z - ((b - a : Nat) : Int)).toNat : Int) := by
   rw [Ao (by omega) (by omega)]
   omega
  rw [e]
  exact hJ _ (by omega)
 ·have c2 := of_decide_eq_false c2
  have e : z = ((z.toNat : Nat) : Int) := by omega
  rw [e]
  exact hJ _ (by omega)
def lowR (a b : Nat) (L : List Int) : Prop := 0 < a → ∀ k,a ≤ k → k < b → L.getD (a - 1) 0 ≤ L.getD k 0
theorem lowR.rp {a b : Nat} {L M : List Int} (h : lowR a b L) (r : RP a b L M) : lowR a b M := by
 intro h0 k k1 k2
 rw [r.out (a - 1) (by omega)]
 exact r.all (P := fun z => L.getD (a - 1) 0 ≤ z) (fun i i1 i2 => h h0 i i1 i2) k k1 k2
theorem AfE {L : List Int} {a b : Nat} (hab : a + 12 < b) (hb : b ≤ L.length) (hl : L.length ≤ 1000000) (hlow0 : lowR a b L) :
  Ok (Dc L (a : Int) (b : Int)) (fun r => RP a b L r.2 ∧ (r.1 = true → Gc a b r.2)) := by
 unfold Dc
 have e1 : w64 ((a : Int) + 1) = ((a + 1 : Nat) : Int) := by
  rw [Ao (by omega) (by omega)]
  omega
 rw [e1]
 refine Ok.for (fun _ s => ∃ i : Nat,s.2 = (i : Int) ∧ a + 1 ≤ i ∧ i ≤ b ∧ RP a b L s.1 ∧ Gc a i s.1) ⟨a + 1,rfl,Nat.le_refl _,by omega,.refl _ _ _,fun p q h1 h2 h3 => by omega⟩ ?_ ?_
 ·rintro j ⟨M,x⟩ n hj ⟨i0,hx,i01,i02,rp,hs0⟩ hn
  simp only at hx rp hs0
  subst hx
  have hM := rp.len
  unfold Fw
  simp only
  refine Ok.while (fun q => ∃ i : Nat,q = (i : Int) ∧ a + 1 ≤ i ∧ i ≤ b ∧ Gc a i M) (fun q => b - q.toNat) ⟨i0,rfl,i01,i02,hs0⟩ (by rw [Ev]; omega) ?_
  clear hs0
  rintro q nn ⟨i,rfl,h1,h2,hs⟩ hnn
  have hw : w64 ((i : Int) - 1) = ((i - 1 : Nat) : Int) := by
   rw [Ao (by omega) (by omega)]
   omega
  have ei : Int.toNat (i : Int) = i := by omega
  have ei1 : Int.toNat ((i - 1 : Nat) : Int) = i - 1 := by omega
  have stop : (i = b ∨ (i < b ∧ M.getD i 0 < M.getD (i - 1) 0)) → Ok (Bp (a : Int) (b : Int) (M,(i0 : Int)) n (i : Int) nn false) (fun r => RP a b L r.2 ∧ (r.1 = true → Gc a b r.2)) := by
   intro hstop
   unfold Bp
   simp only [Bool.false_eq_true,if_false]
   refine Ok.ite (fun c => ?_) fun c => ?_
   ·have c : (i : Int) = (b : Int) := by simpa using c
    have : i = b := by omega
    subst this
    exact Ok.ret ⟨rp,fun _ => hs⟩
   have c : ¬ (i : Int) = (b : Int) := by simpa using c
   have hib : i < b := by omega
   have hlt : M.getD i 0 < M.getD (i - 1) 0 := by
    rcases hstop with h | h
    ·omega
    ·exact h.2
   refine Ok.ite (fun _ => Ok.ret ⟨rp,fun e => by simp at e⟩) fun _ => ?_
   rw [hw,ei,ei1]
   refine Ok.guard (by omega) (Ok.guard (by omega) (Ok.guard (by omega) (Ok.guard (by omega) (Ok.guard (by omega) (Ok.guard (by omega) (Ok.guard (by omega) (Ok.guard (by omega) ?_)))))))
   have hS : (M.set i (M.getD (i - 1) 0)).set (i - 1) (M.getD i 0) = Ed M i (i - 1) := rfl
   rw [hS]
   have hg : ∀ r,(Ed M i (i - 1)).getD r 0 = if r = i - 1 then M.getD i 0 else if r = i then M.getD (i - 1) 0 else M.getD r 0 := fun r => Ht (by omega) (by omega)
   have rps : RP a b M (Ed M i (i - 1)) := RP.swap (by omega) (by omega) (by omega) (by omega) (by omega)
   generalize Ed M i (i - 1) = S at *
   have hJ15 : ∀ N : List Int,RP a b L N → Gc a i N → Ok (Bj (b : Int) n (i : Int) N) (fun r => RP a b L r.2 ∧ (r.1 = true → Gc a b r.2)) := by
    intro N rN hsN
    have hN := rN.len
    have done : ∀ K : List Int,RP a b L K → Gc a i K → Ok (Br n (K,(i : Int))) (fun r => RP a b L r.2 ∧ (r.1 = true → Gc a b r.2)) := by
     intro K rK hK
     unfold Br
     exact hn _ ⟨i,rfl,h1,h2,rK,hK⟩
    unfold Bj
    refine Ok.ite (fun _ => ?_) fun _ => done N rN hsN
    have w1 : w64 ((i : Int) + 1) = ((i + 1 : Nat) : Int) := by
     rw [Ao (by omega) (by omega)]
     omega
    rw [w1]
    refine Ok.guard (by omega) ?_
    rw [show Int.toNat ((b : Int) - ((i + 1 : Nat) : Int)) = b - (i + 1) by omega]
    refine Ok.for (fun _ K => RP a b L K ∧ Gc a i K) ⟨rN,hsN⟩ ?_ fun K ⟨rK,hK⟩ => done K rK hK
    intro t K nk ht ⟨rK,hK⟩ hnk
    have hKl := rK.len
    have et : ((i + 1 : Nat) : Int) + (t : Int) = ((i + 1 + t : Nat) : Int) := by omega
    have et1 : w64 (((i + 1 + t : Nat) : Int) - 1) = ((i + t : Nat) : Int) := by
     rw [Ao (by omega) (by omega)]
     omega
    have et2 : Int.toNat ((i + 1 + t : Nat) : Int) = i + 1 + t := by omega
    have et3 : Int.toNat ((i + t : Nat) : Int) = i + t := by omega
    rw [et]
    unfold Fr
    rw [et1,et2,et3]
    refine Ok.guard (by omega) (Ok.guard (by omega) (Ok.guard (by omega) (Ok.guard (by omega) ?_)))
    refine Ok.step (Jq _ _) ?_
    refine Ok.ite (fun _ => done K rK hK) fun _ => ?_
    refine Ok.guard (by omega) (Ok.guard (by omega) (Ok.guard (by omega) (Ok.guard (by omega) (Ok.guard (by omega) (Ok.guard (by omega) (Ok.guard (by omega) (Ok.guard (by omega) ?_)))))))
    refine hnk (Ed K (i + 1 + t) (i + t)) ⟨rK.trans (RP.swap (by omega) (by omega) (by omega) (by omega) (by omega)),fun p q p1 p2 p3 => ?_⟩
    rw [Ht (by omega) (by omega),Ht (by omega) (by omega),if_neg (by omega),if_neg (by omega),if_neg (by omega),if_neg (by omega)]
    exact hK p q p1 p2 p3
   have rS := rp.trans rps
   have hSl := rS.len
   refine Ok.ite (fun _ => ?_) fun c5 => ?_
   ·refine Ok.while (fun q => ∃ k : Nat,q.2 = (k : Int) ∧ a ≤ k ∧ k + 1 ≤ i ∧ RP a b L q.1 ∧ (∀ p r,a ≤ p → p < r → r < i → p ≠ k → r ≠ k → q.1.getD p 0 ≤ q.1.getD r 0) ∧ (∀ r,k < r → r < i → q.1.getD k 0 ≤ q.1.getD r 0)) (fun q => q.2.toNat) ?_ (by rw [Ev]; simp only; omega) ?_
    ·refine ⟨i - 1,rfl,by omega,by omega,rS,fun p r p1 p2 p3 p4 p5 => ?_,fun r r1 r2 => by omega⟩
     simp only
     rw [hg,hg,if_neg p4,if_neg p5,if_neg (by omega),if_neg (by omega)]
     exact hs p r p1 p2 p3
    ·rintro ⟨K,y⟩ n3 ⟨k,hy,k1,k2,rK,hA,hB⟩ hn3
     simp only at hy rK hA hB
     subst hy
     have hKl := rK.len
     have fin : (k = a ∨ ¬ K.getD k 0 < K.getD (k - 1) 0) → Ok (Bj (b : Int) n (i : Int) K) (fun r => RP a b L r.2 ∧ (r.1 = true → Gc a b r.2)) := by
      intro hstop
      refine hJ15 K rK fun p q p1 p2 p3 => ?_
      by_cases hp : p = k
      ·subst hp
       exact hB q p2 p3
      by_cases hq : q = k
      ·subst hq
       rcases hstop with h | h
       ·omega
       ·by_cases hp2 : p = q - 1
        ·subst hp2
         omega
        ·have := hA p (q - 1) p1 (by omega) (by omega) hp (by omega)
         omega
      exact hA p q p1 p2 p3 hp hq
     have ek : Int.toNat (k : Int) = k := by omega
     unfold Fu
     simp only
     refine Ok.ite (fun c6 => ?_) fun c6 => ?_
     ·have c6 := of_decide_eq_true c6
      have wk : w64 ((k : Int) - 1) = ((k - 1 : Nat) : Int) := by
       rw [Ao (by omega) (by omega)]
       omega
      have ek1 : Int.toNat ((k - 1 : Nat) : Int) = k - 1 := by omega
      rw [wk,ek,ek1]
      refine Ok.guard (by omega) (Ok.guard (by omega) (Ok.guard (by omega) (Ok.guard (by omega) ?_)))
      refine Ok.step (Jq _ _) ?_
      refine Ok.ite (fun c7 => fin (.inr (by simpa using c7))) fun c7 => ?_
      have c7 : K.getD k 0 < K.getD (k - 1) 0 := by
       rw [Bool.not_eq_false'] at c7
       exact of_decide_eq_true c7
      have hka : a < k := by
       by_cases e : k = a
       ·exfalso
        subst e
        have h3 := hlow0.rp rK (by omega) k (Nat.le_refl _) (by omega)
        omega
       ·omega
      refine Ok.guard (by omega) (Ok.guard (by omega) (Ok.guard (by omega) (Ok.guard (by omega) (Ok.guard (by omega) (Ok.guard (by omega) (Ok.guard (by omega) (Ok.guard (by omega) ?_)))))))
      have hgk : ∀ r,(Ed K k (k - 1)).getD r 0 = if r = k - 1 then K.getD k 0 else if r = k then K.getD (k - 1) 0 else K.getD r 0 := fun r => Ht (by omega) (by omega)
      refine hn3 (Ed K k (k - 1),((k - 1 : Nat) : Int)) ⟨k - 1,rfl,by omega,by omega,rK.trans (RP.swap (by omega) (by omega) (by omega) (by omega) (by omega)),?_,?_⟩ (by simp only; omega)
      ·intro p r p1 p2 p3 p4 p5
       simp only
       rw [hgk,hgk,if_neg p4,if_neg p5]
       by_cases hp : p = k
       ·rw [if_pos hp,if_neg (by omega)]
        exact hA (k - 1) r (by omega) (by omega) p3 (by omega) (by omega)
       ·rw [if_neg hp]
        by_cases hr : r = k
        ·rw [if_pos hr]
         exact hA p (k - 1) p1 (by omega) (by omega) hp (by omega)
        ·rw [if_neg hr]
         exact hA p r p1 p2 p3 hp hr
      ·intro r r1 r2
       simp only
       rw [hgk,hgk,if_pos rfl,if_neg (by omega)]
       by_cases hr : r = k
       ·rw [if_pos hr]
        omega
       ·rw [if_neg hr]
        exact hB r (by omega) r2
     ·have c6 := of_decide_eq_false c6
      exact fin (.inl (by omega))
   ·have c5 := of_decide_eq_false c5
    rw [Ao (by omega) (by omega)] at c5
    exact hJ15 S rS fun p q p1 p2 p3 => by omega
  unfold Fs
  simp only
  refine Ok.ite (fun c => ?_) fun c => ?_
  ·have c := of_decide_eq_true c
   rw [hw,ei,ei1]
   refine Ok.guard (by omega) (Ok.guard (by omega) (Ok.guard (by omega) (Ok.guard (by omega) ?_)))
   refine Ok.step (Jq _ _) ?_
   cases hlt : decide (M.getD i 0 < M.getD (i - 1) 0) with
   | true => exact stop (.inr ⟨by omega,of_decide_eq_true hlt⟩)
   | false =>
    have hlt := of_decide_eq_false hlt
    unfold Bp
    have w1 : w64 ((i : Int) + 1) = ((i + 1 : Nat) : Int) := by
     rw [Ao (by omega) (by omega)]
     omega
    simp only [Bool.not_false,if_true]
    rw [w1]
    refine hnn _ ⟨i + 1,rfl,by omega,by omega,fun p q p1 p2 p3 => ?_⟩ (by omega)
    by_cases e : q = i
    ·subst e
     by_cases e2 : p = q - 1
     ·subst e2
      omega
     ·have := hs p (q - 1) p1 (by omega) (by omega)
      omega
    ·exact hs p q p1 p2 (by omega)
  ·have c := of_decide_eq_false c
   exact stop (.inl (by omega))
 ·rintro ⟨M,x⟩ ⟨i,_,_,_,rp,_⟩
  exact Ok.ret ⟨rp,fun e => by simp at e⟩
def outR (a b c d : Nat) (L : List Int) : Prop := ∀ p q,a ≤ p → p < q → q < b → ¬ (c ≤ p ∧ q < d) → L.getD p 0 ≤ L.getD q 0
theorem outR.rp {a b c d : Nat} {L M : List Int} (h : outR a b c d L) (hc : a ≤ c) (hd : d ≤ b) (r : RP c d L M) : outR a b c d M := by
 intro p q p1 p2 p3 p4
 by_cases hp : c ≤ p ∧ p < d
 ·have hq : d ≤ q := by omega
  rw [r.out q (.inr hq)]
  exact r.all (P := fun z => z ≤ L.getD q 0) (fun i i1 i2 => h i q (by omega) (by omega) p3 (by omega)) p hp.1 hp.2
 ·rw [r.out p (by omega)]
  by_cases hq : c ≤ q ∧ q < d
  ·exact r.all (P := fun z => L.getD p 0 ≤ z) (fun i i1 i2 => h p i p1 (by omega) (by omega) (by omega)) q hq.1 hq.2
  ·rw [r.out q (by omega)]
   exact h p q p1 p2 p3 p4
theorem pdq_F : ∀ (fuel : Nat) {L : List Int} {a b : Nat} (lim : Int),b - a < fuel → a ≤ b → b ≤ L.length → L.length ≤ 1000 → lowR a b L → Ok (Bz fuel L (a : Int) (b : Int) lim) (fun M => RP a b L M ∧ Gc a b M) := by
 intro fuel
 induction fuel with
 | zero => intro L a b lim h; omega
 | succ fuel ih =>
  intro L a b lim hf hab hb hl hlow
  rw [Bz]
  unfold Hn
  refine Ok.while (fun s => ∃ c d : Nat,s.2.1 = (c : Int) ∧ s.2.2.1 = (d : Int) ∧ a ≤ c ∧ c ≤ d ∧ d ≤ b ∧ RP a b L s.1 ∧ outR a b c d s.1) (fun s => (s.2.2.1 - s.2.1).toNat) ⟨a,b,rfl,rfl,Nat.le_refl _,hab,Nat.le_refl _,.refl _ _ _,fun p q h1 h2 h3 h4 => by omega⟩ (by rw [Ev]; simp only; omega) ?_
  rintro ⟨M,x,y,lm,wb,wp⟩ n ⟨c,d,hx,hy,c1,c2,c3,rp,ho⟩ hn
  simp only at hx hy rp ho
  subst hx hy
  have hM := rp.len
  have hlowc : lowR c d M := by
   intro h0 k k1 k2
   by_cases e : c = a
   ·subst e
    exact hlow.rp rp h0 k k1 (by omega)
   ·exact ho (c - 1) k (by omega) (by omega) (by omega) (by omega)
  have done : ∀ N,RP c d M N → Gc c d N → RP a b L N ∧ Gc a b N := by
   intro N rN hs
   refine ⟨rp.trans (rN.widen c1 c3),fun p q p1 p2 p3 => ?_⟩
   by_cases e : c ≤ p ∧ q < d
   ·exact hs p q e.1 p2 e.2
   ·exact ho.rp c1 c3 rN p q p1 p2 p3 e
  have wn : w64 ((d : Int) - (c : Int)) = ((d - c : Nat) : Int) := by
   rw [Ao (by omega) (by omega)]
   omega
  unfold Jm
  simp only
  rw [wn]
  refine Ok.ite (fun _ => ?_) fun cc => ?_
  ·refine Ok.bind (AeS c2 (by omega) (by omega)) fun N ⟨rN,hs⟩ => ?_
   exact Ok.guard rN.len.symm (Ok.ret (done N rN hs))
  have cc := of_decide_eq_false cc
  have hcd : c + 12 < d := by omega
  refine Ok.ite (fun _ => ?_) fun _ => ?_
  ·refine Ok.bind (Afv (by omega) (by omega) (by omega)) fun N ⟨rN,hs⟩ => ?_
   exact Ok.guard rN.len.symm (Ok.ret (done N rN hs))
  have hJ8 : ∀ (N : List Int) (l2 : Int),RP c d M N → Ok (Eh (Bz fuel) (M,(c : Int),(d : Int),lm,wb,wp) n (N,l2)) (fun M => RP a b L M ∧ Gc a b M) := by
   intro N l2 rN
   have hN := rN.len
   have hJ9 : ∀ (K : List Int) (pv hint : Int),RP c d M K → InR c d pv → Ok (Ej (Bz fuel) (M,(c : Int),(d : Int),lm,wb,wp) n (N,l2) (K,pv,hint)) (fun M => RP a b L M ∧ Gc a b M) := by
    intro K pv hint rK hpv
    have hK := rK.len
    have hJ10 : ∀ U : List Int,RP c d M U → Ok (Dx (Bz fuel) (M,(c : Int),(d : Int),lm,wb,wp) n (N,l2) (K,pv,hint) U) (fun M => RP a b L M ∧ Gc a b M) := by
     intro U rU
     have hU := rU.len
     obtain ⟨p,rfl,p1,p2⟩ := hpv
     have hlowU := hlowc.rp rU
     have hJ11 : ∀ e : Bool,(e = true → 0 < c ∧ ¬ U.getD (c - 1) 0 < U.getD p 0) → Ok (Eb (Bz fuel) (M,(c : Int),(d : Int),lm,wb,wp) n (N,l2) (K,(p : Int),hint) U e) (fun M => RP a b L M ∧ Gc a b M) := by
      intro e he
      unfold Eb
      simp only
      refine Ok.ite (fun ce => ?_) fun _ => ?_
      ·-- many equal ones
       obtain ⟨hc0,hle⟩ := he ce
       refine Ok.bind (AbH (by omega) (by omega) (by omega) p1 p2) fun r ⟨m,hr,m1,m2,rr,hlo,hhi⟩ => ?_
       refine Ok.guard rr.len.symm ?_
       have rMr := rU.trans rr
       rw [hr]
       refine hn _ ⟨m,d,rfl,rfl,by omega,by omega,c3,rp.trans (rMr.widen c1 c3),?_⟩ (by simp only; omega)
       have hor := ho.rp c1 c3 rMr
       have hlowr := hlowU.rp rr
       intro u v u1 u2 u3 u4
       simp only
       by_cases hin : c ≤ u ∧ v < d
       ·have hu : u < m := by omega
        have h1 := hlo u hin.1 hu
        by_cases hv : v < m
        ·have h2 := hlowr hc0 v (by omega) (by omega)
         rw [rr.out (c - 1) (by omega)] at h2
         omega
        ·have h2 := hhi v (by omega) hin.2
         omega
       ·exact hor u v u1 u2 u3 hin
      ·refine Ok.bind (AeV (by omega) (by omega) (by omega) p1 p2) fun r ⟨m,hr,m1,m2,rr,hlo,hhi⟩ => ?_
       have rMr := rU.trans rr
       have hrl := rMr.len
       refine Ok.guard rr.len.symm ?_
       have hor := ho.rp c1 c3 rMr
       have hlowr := hlowU.rp rr
       rw [hr]
       have w1 : w64 ((m : Int) + 1) = ((m + 1 : Nat) : Int) := by
        rw [Ao (by omega) (by omega)]
        omega
       refine Ok.ite (fun _ => ?_) fun _ => ?_
       ·-- the left part first
        refine Ok.bind (ih (L := r.2.2) (a := c) (b := m) l2 (by omega) m1 (by omega) (by omega) (fun h0 k k1 k2 => hlowr h0 k k1 (by omega))) fun S ⟨rS,hs⟩ => ?_
        refine Ok.guard rS.len.symm ?_
        rw [w1]
        refine hn _ ⟨m + 1,d,rfl,rfl,by omega,by omega,c3,rp.trans ((rMr.trans (rS.widen (Nat.le_refl _) (by omega))).widen c1 c3),?_⟩ (by simp only; omega)
        have horS := hor.rp c1 c3 (rS.widen (Nat.le_refl _) (by omega))
        intro u v u1 u2 u3 u4
        simp only
        by_cases hin : c ≤ u ∧ v < d
        ·have hum : u ≤ m := by omega
         have hSm : ∀ k,m ≤ k → S.getD k 0 = r.2.2.getD k 0 := fun k hk => rS.out k (.inr hk)
         have hSlo : ∀ k,c ≤ k → k < m → S.getD k 0 ≤ r.2.2.getD m 0 := fun k k1 k2 => rS.all (P := fun z => z ≤ r.2.2.getD m 0) (fun i i1 i2 => hlo i i1 i2) k k1 k2
         by_cases hv : v < m
         ·exact hs u v hin.1 u2 hv
         ·rw [hSm v (by omega)]
          have hvm : r.2.2.getD m 0 ≤ r.2.2.getD v 0 := by
           by_cases e2 : v = m
           ·rw [e2]
            exact Int.le_refl _
           ·exact hhi v (by omega) hin.2
          by_cases e3 : u = m
          ·rw [e3,hSm m (Nat.le_refl _)]
           exact hvm
          ·have := hSlo u hin.1 (by omega)
           omega
        ·exact horS u v u1 u2 u3 hin
       ·-- the right part first
        rw [w1]
        refine Ok.bind (ih (L := r.2.2) (a := m + 1) (b := d) l2 (by omega) (by omega) (by omega) (by omega) (fun h0 k k1 k2 => by
         have := hhi k (by omega) k2
         simpa using this)) fun S ⟨rS,hs⟩ => ?_
        refine Ok.guard rS.len.symm ?_
        refine hn _ ⟨c,m,rfl,rfl,c1,m1,by omega,rp.trans ((rMr.trans (rS.widen (by omega) (Nat.le_refl _))).widen c1 c3),?_⟩ (by simp only; omega)
        have horS := hor.rp c1 c3 (rS.widen (by omega) (Nat.le_refl _))
        intro u v u1 u2 u3 u4
        simp only
        by_cases hin : c ≤ u ∧ v < d
        ·have hSm : ∀ k,k ≤ m → S.getD k 0 = r.2.2.getD k 0 := fun k hk => rS.out k (.inl (by omega))
         have hShi : ∀ k,m < k → k < d → r.2.2.getD m 0 ≤ S.getD k 0 := fun k k1 k2 => rS.all (P := fun z => r.2.2.getD m 0 ≤ z) (fun i i1 i2 => hhi i (by omega) i2) k (by omega) k2
         by_cases hu : m < u
         ·exact hs u v (by omega) u2 hin.2
         ·rw [hSm u (by omega)]
          have hum : r.2.2.getD u 0 ≤ r.2.2.getD m 0 := by
           by_cases e2 : u = m
           ·rw [e2]
            exact Int.le_refl _
           ·exact hlo u hin.1 (by omega)
          by_cases e3 : v = m
          ·rw [e3,hSm m (Nat.le_refl _)]
           exact hum
          ·have := hShi v (by omega) hin.2
           omega
        ·exact horS u v u1 u2 u3 hin
     unfold Dx
     simp only
     refine Ok.ite (fun ce => ?_) fun _ => hJ11 false fun e => by simp at e
     have ce := of_decide_eq_true ce
     have wc : w64 ((c : Int) - 1) = ((c - 1 : Nat) : Int) := by
      rw [Ao (by omega) (by omega)]
      omega
     have ec : Int.toNat ((c - 1 : Nat) : Int) = c - 1 := by omega
     have ep : Int.toNat (p : Int) = p := by omega
     rw [wc,ec,ep]
     refine Ok.guard (by omega) (Ok.guard (by omega) (Ok.guard (by omega) (Ok.guard (by omega) ?_)))
     refine Ok.step (Jq _ _) (hJ11 _ fun e => ⟨by omega,?_⟩)
     simpa using e
    unfold Ej
    simp only
    refine Ok.ite (fun _ => ?_) fun _ => hJ10 K rK
    refine Ok.bind (AfE hcd (by omega) (by omega) (hlowc.rp rK)) fun r ⟨rr,hs⟩ => ?_
    refine Ok.guard rr.len.symm ?_
    exact Ok.ite (fun e => Ok.ret (done _ (rK.trans rr) (hs e))) fun _ => hJ10 _ (rK.trans rr)
   unfold Eh
   simp only
   refine Ok.bind (Adl hcd (by omega) (by omega)) fun r hr => ?_
   refine Ok.ite (fun _ => ?_) fun _ => hJ9 N r.1 r.2 rN hr
   refine Ok.bind (Agi (by omega) (by omega) (by omega)) fun K rK => ?_
   refine Ok.guard rK.len.symm (hJ9 _ _ _ (rN.trans rK) ?_)
   obtain ⟨p,hp,p1,p2⟩ := hr
   rw [hp,Ao (n := (d : Int) - 1) (by omega) (by omega),Ao (n := (p : Int) - (c : Int)) (by omega) (by omega),Ao (by omega) (by omega)]
   exact ⟨d - 1 - (p - c),by omega,by omega,by omega⟩
  refine Ok.ite (fun _ => ?_) fun _ => hJ8 M _ (.refl _ _ _)
  refine Ok.bind (break_ok hcd (by omega) (by omega)) fun N rN => ?_
  exact Ok.guard rN.len.symm (hJ8 _ _ rN)
theorem Sort_ok (L : List Int) (hl : L.length ≤ 1000) : Ok (He L) (fun M => M.Perm L ∧ M.Pairwise (· ≤ ·)) := by
 unfold He
 refine Ok.bind (Aeu hl) fun k _ => ?_
 unfold Ki
 have h := pdq_F Fm (L := L) (a := 0) (b := L.length) k (by rw [Ev]; omega) (by omega) (Nat.le_refl _) hl (fun h => by omega)
 refine Ok.bind h fun M ⟨rp,hs⟩ => Ok.guard rp.len.symm (Ok.ret ⟨rp.perm,?_⟩)
 rw [List.pairwise_iff_getElem]
 intro i j hi hj hij
 have := hs i j (by omega) hij (by have := rp.len; omega)
 rw [Dy hi,Dy hj] at this
 exact this
end Go.Dm

/- Plain theory, part 15: counts. -/
namespace Go.Dm
end Go.Dm

/- Plain theory, part 16: made counts. -/
namespace Go.Dm
end Go.Dm

/- Plain theory, part 17: room and refusals. -/
namespace Go.Dm
end Go.Dm

/- Plain theory, part 18: sums of counts. -/
namespace Go.Dm
end Go.Dm

/- Plain theory, part 19: charges, limits; the document's functions on counts. -/
namespace Go.Dm
end Go.Dm

/- Plain theory, part 21: what changes leave as it is; sizes of made hierarchies. -/
namespace Go.Dm
end Go.Dm

/- Plain theory, part 22: the program's changes of hierarchies are the document's. -/
namespace Go.Dm
theorem Wj {α : Type} {L : List α} {a n : Nat} {x : α} (h : a + n ≤ L.length) : (Hz L a n x).length = L.length := by
 simp only [Hz,List.length_append,List.length_take,List.length_replicate,List.length_drop]
 omega
theorem Uw {α : Type} {L : List α} {a n : Nat} {x : α} (h : a ≤ L.length) : (Hz L a n x).take a = L.take a := by
 unfold Hz
 rw [List.take_append_of_le_length (by rw [List.length_take]; omega),List.take_take,Nat.min_self]
theorem AeO {α : Type} {L M : List α} {a n : Nat} (h : a + n ≤ L.length) (hm : n ≤ M.length) : (Le L a n M).length = L.length := by
 simp only [Le,List.length_append,List.length_take,List.length_drop]
 omega
theorem AbZ {α R : Type} {p : α → Bool} {L : List α} {d : α} (hl : L.length ≤ 1000000) {body : List α × Int × Int → (List α × Int × Int → Option R) → Option R} {Q : R → Prop} {i0 : Nat} (hi0 : i0 < L.length) (h0 : ∀ x ∈ L.take i0,p x = false) (hp : p (L.getD i0 d) = true)
  (hb : ∀ (M : List α) (i j : Nat) n,M.length = L.length → i < j → j < L.length → (∀ s,(s = if p (M.getD j d) then (M,(i : Int),((j + 1 : Nat) : Int)) else (M.set i (M.getD j d),((i + 1 : Nat) : Int),((j + 1 : Nat) : Int))) → Ok (n s) Q) → Ok (body (M,(i : Int),(j : Int)) n) Q)
  (hr : ∀ (M : List α) (i : Nat) n,M.length = L.length → i ≤ L.length → M.take i = L.filter (fun x => !p x) → Ok (body (M,(i : Int),(L.length : Int)) n) Q) : Ok (whileO body Fm (L,(i0 : Int),((i0 + 1 : Nat) : Int))) Q := by
 refine Ok.while (fun s => ∃ i j : Nat,s.2.1 = (i : Int) ∧ s.2.2 = (j : Int) ∧ i < j ∧ j ≤ L.length ∧ s.1.length = L.length ∧ s.1.take i = (L.take j).filter (fun x => !p x) ∧ s.1.drop j = L.drop j) (fun s => L.length - s.2.2.toNat) ?_ ?_ ?_
 ·refine ⟨i0,i0 + 1,rfl,rfl,by omega,by omega,rfl,?_,rfl⟩
  have e : L.take (i0 + 1) = L.take i0 ++ [L.getD i0 d] := by
   rw [List.take_add_one,Dy hi0]
   simp [hi0]
  rw [e,List.filter_append,List.filter_eq_self.mpr fun x hx => by simp [h0 x hx]]
  simp only [hp,Bool.not_true,List.filter_cons,Bool.false_eq_true,if_false,List.filter_nil,List.append_nil]
 ·rw [Ev]
  omega
 ·rintro ⟨M,x,y⟩ n ⟨i,j,e1,e2,hij,hj,hM,ht,hd⟩ hn
  simp only at e1 e2 hM ht hd
  subst e1 e2
  by_cases hjl : j < L.length
  ·refine hb M i j n hM hij hjl fun s hs => ?_
   have hMj : M.getD j d = L.getD j d := by
    have := congrArg List.head? hd
    rw [List.head?_drop,List.head?_drop] at this
    rw [List.getD_eq_getElem?_getD,List.getD_eq_getElem?_getD,this]
   have e : L.take (j + 1) = L.take j ++ [L.getD j d] := by
    rw [List.take_add_one,Dy hjl]
    simp [hjl]
   have hd' : M.drop (j + 1) = L.drop (j + 1) := by
    have := congrArg (List.drop 1) hd
    rw [List.drop_drop,List.drop_drop] at this
    exact this
   cases hpj : p (M.getD j d) with
   | true =>
    rw [hpj,if_pos rfl] at hs
    subst hs
    refine hn _ ⟨i,j + 1,rfl,rfl,by omega,by omega,hM,?_,hd'⟩ (by simp only; omega)
    simp only
    rw [ht,e,List.filter_append,← hMj,List.filter_cons,hpj]
    simp
   | false =>
    rw [hpj,if_neg (by simp)] at hs
    subst hs
    refine hn _ ⟨i + 1,j + 1,rfl,rfl,by omega,by omega,by simp [hM],?_,?_⟩ (by simp only; omega)
    ·simp only
     rw [e,List.filter_append,← hMj,← ht]
     have hi : i < M.length := by omega
     rw [List.take_add_one,List.filter_cons,hpj,List.take_set_of_le (Nat.le_refl _),List.getElem?_set_self hi]
     rfl
    ·simp only
     rw [List.drop_set_of_lt (by omega),hd']
  ·obtain rfl : j = L.length := by omega
   refine hr M i n hM (by omega) ?_
   rw [ht,List.take_length]
end Go.Dm

/- Plain theory, part 23: spoiled hierarchies; hierarchies that are refused. -/
namespace Go.Dm
end Go.Dm

/- Plain theory, part 24: kinds of groups, domains, what fits. -/
namespace Go.Dm
def nodeN (t : Ac) (a : Int) : Ai := (getN t a).getD zN
theorem nodeN_id {t : Ac} {id : Int} (h : Ft t id = true) : (nodeN t id).id = id ∧ nodeN t id ∈ t.nodes := by
 unfold nodeN Ft at *
 cases hg : getN t id with
 | none => rw [hg] at h; simp at h
 | some x => exact ⟨(AdX hg).2,(AdX hg).1⟩
theorem up_cons {t : Ac} (w : WfT t) {id : Int} (h : Ft t id = true) : upT t id = id :: upT t (nodeN t id).parent := by
 obtain ⟨e,hx⟩ := nodeN_id h
 have := w.up hx
 rw [e] at this
 exact this
theorem has_root {t : Ac} (w : WfT t) : Ft t 1 = true := by
 obtain ⟨n,q,e,hr⟩ := w.root
 exact hasN_iff.mpr ⟨n,by rw [e]; simp,hr.id⟩
theorem AfQ {t : Ac} (w : WfT t) {x : Ai} (hx : x ∈ t.nodes) (h1 : x.id ≠ 1) : Ft t x.parent = true := by
 rcases w.p.par x hx with ⟨h,_⟩ | ⟨_,_,⟨z,hz,e⟩,_⟩
 ·exact absurd h h1
 ·exact hasN_iff.mpr ⟨z,hz,e⟩
end Go.Dm

/- Plain theory, part 25: forks that are counted. -/
namespace Go.Dm
end Go.Dm

/- Plain theory, part 39: ascending lists; Sorted of the sets; Compact of lists that do not fall. -/
namespace Go.Dm
abbrev Asc (L : List Int) : Prop := L.Pairwise (· < ·)
theorem Abu : ∀ {A B : List Int},Asc A → Asc B → (∀ x,x ∈ A ↔ x ∈ B) → A = B
 | [],B,_,_,h => by
  cases B with
  | nil => rfl
  | cons b B => exact absurd ((h b).mpr (by simp)) (by simp)
 | a :: A,[],_,_,h => absurd ((h a).mp (by simp)) (by simp)
 | a :: A,b :: B,ha,hb,h => by
  rw [Asc,List.pairwise_cons] at ha hb
  have hab : a = b := by
   rcases List.mem_cons.mp ((h a).mp (by simp)) with e | e
   ·exact e
   ·rcases List.mem_cons.mp ((h b).mpr (by simp)) with e' | e'
    ·exact e'.symm
    ·have h1 := hb.1 a e
     have h2 := ha.1 b e'
     omega
  subst hab
  congr 1
  refine Abu ha.2 hb.2 fun x => ?_
  have hx := h x
  simp only [List.mem_cons] at hx
  constructor
  ·intro hm
   rcases hx.mp (.inr hm) with e | e
   ·have := ha.1 x hm
    omega
   ·exact e
  ·intro hm
   rcases hx.mpr (.inr hm) with e | e
   ·have := hb.1 x hm
    omega
   ·exact e
theorem Ww {A : List Int} (h : Asc A) : A.Nodup := h.imp fun h => by omega
theorem put_in {L : List Int} {k : Nat} {x : Int} (hk : k ≤ L.length) : (Le (L ++ [0]) (k + 1) (Gi (Cc (L ++ [0]).length k) (Cc (L ++ [0]).length (k + 1))) (((L ++ [0]).drop k).take (Cc (L ++ [0]).length k))).set k x = L.take k ++ x :: L.drop k := by
 have e1 : (L ++ [0]).drop k = L.drop k ++ [0] := List.drop_append_of_le_length hk
 have hl : (L ++ [0]).length = L.length + 1 := by simp
 have e2 : Gi (L.length + 1 - k) (L.length + 1 - (k + 1)) = L.length - k := by
  rw [Vz]
  show min _ _ = _
  omega
 have e3 : (L.drop k ++ [0]).take (L.length + 1 - k) = L.drop k ++ [(0 : Int)] := List.take_of_length_le (by simp; omega)
 have e4 : (L.drop k ++ [(0 : Int)]).take (L.length - k) = L.drop k := by
  rw [List.take_append_of_le_length (by simp),List.take_of_length_le (by simp)]
 have e5 : (L ++ [0]).drop (k + 1 + (L.length - k)) = ([] : List Int) := List.drop_of_length_le (by simp; omega)
 have e6 : ∃ y,(L ++ [0]).take (k + 1) = L.take k ++ [y] := by
  rw [List.take_add_one,List.take_append_of_le_length hk]
  have : k < (L ++ [(0 : Int)]).length := by simp; omega
  exact ⟨(L ++ [0])[k],by rw [List.getElem?_eq_getElem this]; rfl⟩
 obtain ⟨y,e6⟩ := e6
 unfold Le
 rw [Gy,Gy,hl,e2,e1,e3,e4,e5,e6,List.append_nil,List.append_assoc]
 have hlen : (L.take k).length = k := by simp; omega
 rw [List.set_append_right _ _ (by omega),hlen,Nat.sub_self]
 rfl
theorem asc_put {L : List Int} {k : Nat} {x : Int} (h : Asc L) (h1 : ∀ y ∈ L.take k,y < x) (h2 : ∀ y ∈ L.drop k,x < y) : Asc (L.take k ++ x :: L.drop k) := by
 rw [Asc,List.pairwise_append,List.pairwise_cons]
 have hs : Asc (L.take k ++ L.drop k) := by rw [List.take_append_drop]; exact h
 rw [Asc,List.pairwise_append] at hs
 refine ⟨hs.1,⟨h2,hs.2.1⟩,fun a ha b hb => ?_⟩
 rcases List.mem_cons.mp hb with rfl | hb
 ·exact h1 a ha
 ·exact hs.2.2 a ha b hb
theorem AdB {l : List Int} (hl : l.length ≤ 1000000) : Ok (Og l) (fun r => Asc r ∧ (∀ x,x ∈ r ↔ x ∈ l) ∧ r.length ≤ l.length) := by
 unfold Og
 refine Ok.guard (by omega) ?_
 refine Ok.range (fun pre s => Asc s ∧ (∀ x,x ∈ s ↔ x ∈ pre) ∧ s.length ≤ pre.length) ⟨List.Pairwise.nil,by simp,by simp⟩ ?_ fun s h => Ok.ret h
 intro pre x post s n he ⟨ha,hm,hlen⟩ hn
 have hsl : s.length ≤ 1000000 := by
  have : pre.length ≤ l.length := by rw [he]; simp
  omega
 unfold Uq
 refine Ok.while (fun s4 => ∃ k : Nat,s4 = (k : Int) ∧ k ≤ s.length ∧ ∀ y ∈ s.drop k,x < y) (fun s4 => s4.toNat) ⟨s.length,rfl,Nat.le_refl _,by simp⟩ (by rw [Ev]; omega) ?_
 rintro _ m ⟨k,rfl,hk,hgt⟩ hm4
 have hJ11 : ∀ r,(Asc r ∧ (∀ y,y ∈ r ↔ y ∈ pre ++ [x]) ∧ r.length ≤ (pre ++ [x]).length) → Ok (Mh n r) (fun r => Asc r ∧ (∀ x,x ∈ r ↔ x ∈ l) ∧ r.length ≤ l.length) := fun r h => hn r h
 have hJ15 : ∀ b,(b = true → x ∈ s) → (b = false → ∀ y ∈ s.take k,y < x) → Ok (Kp x s n (k : Int) b) (fun r => Asc r ∧ (∀ x,x ∈ r ↔ x ∈ l) ∧ r.length ≤ l.length) := by
  intro b h1 h2
  unfold Kp
  refine Ok.ite (fun c => ?_) fun c => ?_
  ·refine hJ11 _ ⟨ha,fun y => ?_,by simp; omega⟩
   rw [hm y,List.mem_append,List.mem_singleton]
   constructor
   ·exact .inl
   ·rintro (h | rfl)
    ·exact h
    ·exact (hm y).mp (h1 c)
  ·have hw : w64 ((k : Int) + 1) = ((k + 1 : Nat) : Int) := by
    rw [Ao (by omega) (by omega)]
    omega
   have ht : Int.toNat (w64 ((k : Int) + 1)) = k + 1 := by rw [hw]; omega
   have ht0 : Int.toNat (k : Int) = k := by omega
   rw [ht,hw,ht0]
   have hl0 : (s ++ [0]).length = s.length + 1 := by simp
   have hol : (Le (s ++ [0]) (k + 1) (Gi (Cc (s ++ [0]).length k) (Cc (s ++ [0]).length (k + 1))) (((s ++ [0]).drop k).take (Cc (s ++ [0]).length k))).length = s.length + 1 := by
    rw [AeO,hl0]
    ·rw [hl0,Gy,Gy,Vz]
     show k + 1 + min _ _ ≤ _
     omega
    ·rw [List.length_take,List.length_drop,hl0,Gy,Gy,Vz]
     show min _ _ ≤ _
     omega
   refine Ok.guard (by omega) (Ok.guard ⟨by omega,by rw [hl0]; omega⟩ (Ok.guard ⟨by omega,by rw [hl0]; omega⟩ (Ok.guard (by rw [hl0,Gy]; omega) (Ok.guard ⟨by omega,by rw [hol]; omega⟩ (Ok.guard (by rw [hol]; omega) ?_)))))
   rw [put_in hk]
   refine hJ11 _ ⟨asc_put ha (h2 c) hgt,fun y => ?_,by simp; omega⟩
   rw [List.mem_append,List.mem_cons,List.mem_append,List.mem_singleton,← hm y]
   constructor
   ·rintro (h | rfl | h)
    ·exact .inl (List.mem_of_mem_take h)
    ·exact .inr rfl
    ·exact .inl (List.mem_of_mem_drop h)
   ·rintro (h | rfl)
    ·rw [← List.take_append_drop k s,List.mem_append] at h
     rcases h with h | h
     ·exact .inl h
     ·exact .inr (.inr h)
    ·exact .inr (.inl rfl)
 by_cases k0 : k = 0
 ·subst k0
  unfold Qu Kq
  rw [if_neg (by simp),if_neg (by simp),if_neg (by simp)]
  exact hJ15 _ (by simp) (by simp)
 ·have hw : w64 ((k : Int) - 1) = ((k - 1 : Nat) : Int) := by
   rw [Ao (by omega) (by omega)]
   omega
  have ht : Int.toNat (((k - 1 : Nat) : Int)) = k - 1 := by omega
  have hkl : k - 1 < s.length := by omega
  have hd : s.drop (k - 1) = s.getD (k - 1) 0 :: s.drop k := by
   rw [List.drop_eq_getElem_cons hkl,Dy hkl,Nat.sub_add_cancel (by omega)]
  have htk : s.take k = s.take (k - 1) ++ [s.getD (k - 1) 0] := by
   have : k = k - 1 + 1 := by omega
   rw [this,List.take_add_one,Dy (by omega),List.getElem?_eq_getElem (by omega)]
   rfl
  have hlast : ∀ y ∈ s.take (k - 1),y < s.getD (k - 1) 0 := by
   have hs : Asc (s.take k) := ha.sublist (List.take_sublist _ _)
   rw [htk,Asc,List.pairwise_append] at hs
   intro y hy
   exact hs.2.2 y hy _ (by simp)
  unfold Qu
  rw [hw,ht]
  refine Ok.ite (fun _ => Ok.guard ⟨by omega,by omega⟩ (Ok.guard hkl ?_)) fun c => by simp at c; omega
  unfold Kq
  rw [hw,ht]
  refine Ok.ite (fun c => ?_) fun c => ?_
  ·have hx : x < s.getD (k - 1) 0 := by simpa using c
   refine hm4 _ ⟨k - 1,rfl,by omega,?_⟩ (by omega)
   rw [hd]
   intro y hy
   rcases List.mem_cons.mp hy with rfl | hy
   ·exact hx
   ·exact hgt y hy
  ·have hx : ¬ x < s.getD (k - 1) 0 := by simpa using c
   refine Ok.ite (fun _ => Ok.guard ⟨by omega,by omega⟩ (Ok.guard hkl ?_)) fun c => by simp at c; omega
   refine hJ15 _ (fun c => ?_) (fun c => ?_)
   ·have : s.getD (k - 1) 0 = x := by simpa using c
    rw [← this]
    exact Pl hkl
   ·have hne : s.getD (k - 1) 0 ≠ x := by simpa using c
    rw [htk]
    intro y hy
    rcases List.mem_append.mp hy with hy | hy
    ·have := hlast y hy
     omega
    ·have : y = s.getD (k - 1) 0 := by simpa using hy
     omega
theorem Adb {l : List Int} (hl : l.length ≤ 1000000) (ha : Asc l) : Og l = some l :=
 ((AdB hl).mono fun _ ⟨h1,h2,_⟩ => Abu h1 ha h2).eq
theorem le_at {L : List Int} (h : L.Pairwise (· ≤ ·)) {i j : Nat} (hij : i ≤ j) (hj : j < L.length) : L.getD i 0 ≤ L.getD j 0 := by
 by_cases e : i = j
 ·subst e
  omega
 ·rw [Dy hj,Dy (by omega)]
  exact List.pairwise_iff_getElem.mp h i j (by omega) hj (by omega)
theorem Fo {L : List Int} {k : Nat} (h : k < L.length) : L.take (k + 1) = L.take k ++ [L.getD k 0] := by
 rw [List.take_add_one,Dy h,List.getElem?_eq_getElem h]
 rfl
theorem Agd {L : List Int} (hl : L.length ≤ 1000000) (h : L.Pairwise (· ≤ ·)) : Ok (Hu L) (fun r => r.2.length = L.length ∧ r.1 ≤ L.length ∧ Asc (r.2.take r.1) ∧ ∀ x,x ∈ r.2.take r.1 ↔ x ∈ L) := by
 have whole : Asc L → (L.length,L).2.length = L.length ∧ (L.length,L).1 ≤ L.length ∧ Asc ((L.length,L).2.take (L.length,L).1) ∧ ∀ x,x ∈ (L.length,L).2.take (L.length,L).1 ↔ x ∈ L := by
  intro ha
  refine ⟨rfl,Nat.le_refl _,?_,fun x => ?_⟩
  ·show Asc (L.take L.length)
   rw [List.take_length]
   exact ha
  ·show x ∈ L.take L.length ↔ x ∈ L
   rw [List.take_length]
 unfold Hu
 refine Ok.ite (fun c => Ok.ret (whole ?_)) fun c => ?_
 ·have : L.length < 2 := by
   have : ((L.length : Nat) : Int) < 2 := by simpa using c
   omega
  match L,this with
  | [],_ => exact List.Pairwise.nil
  | [a],_ => simp [Asc]
 have hl2 : 2 ≤ L.length := by
  have : ¬ ((L.length : Nat) : Int) < 2 := by simpa using c
  omega
 refine Ok.guard (by omega) ?_
 refine Ok.for (fun j _ => Asc (L.take (j + 1))) ?_ ?_ ?_
 ·rw [Fo (by omega)]
  simp [Asc]
 ·intro j _ n hj ha hn
  have hj' : j + 1 < L.length := by omega
  have hw : w64 (1 + (j : Int) - 1) = (j : Int) := by
   rw [Ao (by omega) (by omega)]
   omega
  have e1 : Int.toNat (1 + (j : Int)) = j + 1 := by omega
  have e0 : Int.toNat (j : Int) = j := by omega
  unfold Nl
  rw [hw,e1,e0]
  refine Ok.guard ⟨by omega,by omega⟩ (Ok.guard hj' (Ok.guard ⟨by omega,by omega⟩ (Ok.guard (by omega) ?_)))
  refine Ok.ite (fun c => ?_) fun c => ?_
  ·have heq : L.getD (j + 1) 0 = L.getD j 0 := by simpa using c
   refine Ok.guard ⟨by omega,by omega⟩ (Ok.guard (by rw [Gy]; omega) ?_)
   refine Ok.for (fun q s => ∃ k : Nat,s.2 = (k : Int) ∧ s.1.length = L.length ∧ 1 ≤ k ∧ k ≤ j + 1 + q ∧ s.1.drop (j + 1 + q) = L.drop (j + 1 + q) ∧ Asc (s.1.take k) ∧ (∀ x,x ∈ s.1.take k ↔ x ∈ L.take (j + 1 + q + 1)) ∧ s.1.getD (k - 1) 0 = L.getD (j + 1 + q) 0) ?_ ?_ ?_
   ·refine ⟨j + 1,by simp only; omega,rfl,by omega,by omega,rfl,ha,fun x => ?_,?_⟩
    ·show x ∈ L.take (j + 1) ↔ x ∈ L.take (j + 1 + 0 + 1)
     rw [Nat.add_zero,Fo (k := j + 1) hj',List.mem_append,heq]
     constructor
     ·exact .inl
     ·rintro (h | h)
      ·exact h
      ·have : x = L.getD j 0 := by simpa using h
       rw [this,Fo (k := j) (by omega)]
       simp
    ·simp only [Nat.add_sub_cancel,Nat.add_zero]
     exact heq.symm
   ·rintro q ⟨M,k'⟩ m hq ⟨k,e2,hM,k1,hk,hd,hasc,hmem,hlast⟩ hm
    simp only at e2 hM hd hasc hmem hlast
    subst e2
    rw [Gy] at hq
    have hw2 : w64 (1 + (q : Int) - 1) = (q : Int) := by
     rw [Ao (by omega) (by omega)]
     omega
    have e3 : Int.toNat (1 + (q : Int)) = q + 1 := by omega
    have e4 : Int.toNat (q : Int) = q := by omega
    have hqL : j + 1 + q + 1 < L.length := by omega
    have hget : ∀ i,j + 1 + q ≤ i → M.getD i 0 = L.getD i 0 := by
     intro i hi
     have h1 : M.getD i 0 = (M.drop (j + 1 + q)).getD (i - (j + 1 + q)) 0 := by
      simp only [List.getD_eq_getElem?_getD,List.getElem?_drop]
      congr 2
      omega
     have h2 : L.getD i 0 = (L.drop (j + 1 + q)).getD (i - (j + 1 + q)) 0 := by
      simp only [List.getD_eq_getElem?_getD,List.getElem?_drop]
      congr 2
      omega
     rw [h1,h2,hd]
    unfold Nq
    simp only
    rw [hw2,e1,e3,e4,Gy,Rh,Rh,hget (j + 1 + (q + 1)) (by omega),hget (j + 1 + q) (by omega),hM]
    refine Ok.guard ⟨by omega,by omega⟩ (Ok.guard (by omega) (Ok.guard ⟨by omega,by omega⟩ (Ok.guard (by omega) ?_)))
    have hk' : Int.toNat (k : Int) = k := by omega
    have hle := le_at h (i := j + 1 + q) (j := j + 1 + (q + 1)) (by omega) (by omega)
    have htake : L.take (j + 1 + (q + 1) + 1) = L.take (j + 1 + q + 1) ++ [L.getD (j + 1 + (q + 1)) 0] := Fo (k := j + 1 + (q + 1)) (by omega)
    have hin : L.getD (j + 1 + q) 0 ∈ L.take (j + 1 + q + 1) := by
     rw [Fo (by omega)]
     simp
    refine Ok.ite (fun c => ?_) fun c => ?_
    ·have hne : L.getD (j + 1 + (q + 1)) 0 ≠ L.getD (j + 1 + q) 0 := by simpa using c
     refine Ok.guard ⟨by omega,by omega⟩ (Ok.guard (by omega) (Ok.guard ⟨by omega,by omega⟩ (Ok.guard (by rw [hk']; omega) ?_)))
     rw [hk']
     have hwk : w64 ((k : Int) + 1) = ((k + 1 : Nat) : Int) := by
      rw [Ao (by omega) (by omega)]
      omega
     have hset : (M.set k (L.getD (j + 1 + (q + 1)) 0)).take (k + 1) = M.take k ++ [L.getD (j + 1 + (q + 1)) 0] := by
      rw [Fo (by rw [List.length_set]; omega),List.take_set_of_le (Nat.le_refl _)]
      congr 2
      rw [List.getD_eq_getElem?_getD,List.getElem?_set_self (by omega)]
      rfl
     refine hm _ ⟨k + 1,by rw [hwk],by simp [hM],by omega,by omega,?_,?_,?_,?_⟩
     ·show (M.set k _).drop (j + 1 + (q + 1)) = L.drop (j + 1 + (q + 1))
      rw [List.drop_set_of_lt (by omega),show j + 1 + (q + 1) = j + 1 + q + 1 by omega,← List.drop_drop,hd,List.drop_drop]
     ·show Asc ((M.set k _).take (k + 1))
      rw [hset,Asc,List.pairwise_append]
      refine ⟨hasc,by simp,fun a ha b hb => ?_⟩
      have hb' : b = L.getD (j + 1 + (q + 1)) 0 := by simpa using hb
      have hkk : k = k - 1 + 1 := by omega
      rw [hkk,Fo (by omega),List.mem_append] at ha
      rcases ha with ha | ha
      ·have h2 := hasc
       rw [hkk,Fo (by omega),Asc,List.pairwise_append] at h2
       have := h2.2.2 a ha _ (List.mem_singleton.mpr rfl)
       omega
      ·have : a = M.getD (k - 1) 0 := by simpa using ha
       omega
     ·intro x
      show x ∈ (M.set k _).take (k + 1) ↔ _
      rw [hset,htake,List.mem_append,List.mem_append,hmem x]
     ·show (M.set k _).getD (k + 1 - 1) 0 = _
      rw [Nat.add_sub_cancel,List.getD_eq_getElem?_getD,List.getElem?_set_self (by omega)]
      rfl
    ·have heq2 : L.getD (j + 1 + (q + 1)) 0 = L.getD (j + 1 + q) 0 := by simpa using c
     refine hm _ ⟨k,rfl,hM,k1,by omega,?_,hasc,?_,?_⟩
     ·show M.drop (j + 1 + (q + 1)) = L.drop (j + 1 + (q + 1))
      rw [show j + 1 + (q + 1) = j + 1 + q + 1 by omega,← List.drop_drop,hd,List.drop_drop]
     ·intro x
      show x ∈ M.take k ↔ _
      rw [htake,List.mem_append,hmem x]
      constructor
      ·exact .inl
      ·rintro (h | h)
       ·exact h
       ·have : x = L.getD (j + 1 + (q + 1)) 0 := by simpa using h
        rw [this,heq2]
        exact hin
     ·show M.getD (k - 1) 0 = _
      rw [hlast]
      exact heq2.symm
   ·rintro ⟨M,k'⟩ ⟨k,e2,hM,k1,hk,hd,hasc,hmem,hlast⟩
    simp only at e2 hM hd hasc hmem hlast
    subst e2
    have hm0 : Int.toNat ((((Cc L.length (j + 1)) : Nat) : Int) - 1) = L.length - (j + 1) - 1 := by
     rw [Gy]
     omega
    rw [hm0] at hk hmem
    have hk' : Int.toNat (k : Int) = k := by omega
    unfold Nk
    simp only
    rw [hk',hM,Gy]
    have hfl : (Hz M k (L.length - k) 0).length = L.length := by
     rw [Wj (by omega),hM]
    refine Ok.guard ⟨by omega,by omega⟩ (Ok.guard (by omega) (Ok.guard ⟨by omega,by rw [hfl]; omega⟩ (Ok.ret ?_)))
    refine ⟨hfl,by show k ≤ _; omega,?_,?_⟩
    ·show Asc ((Hz M k (L.length - k) 0).take k)
     rw [Uw (by omega)]
     exact hasc
    ·intro x
     show x ∈ (Hz M k (L.length - k) 0).take k ↔ x ∈ L
     rw [Uw (by omega),hmem x,List.take_of_length_le (by omega)]
  ·have hne : L.getD (j + 1) 0 ≠ L.getD j 0 := by simpa using c
   refine hn () ?_
   have hle := le_at h (i := j) (j := j + 1) (by omega) hj'
   rw [Fo (k := j + 1) hj',Asc,List.pairwise_append]
   refine ⟨ha,by simp,fun a ha' b hb => ?_⟩
   have hb' : b = L.getD (j + 1) 0 := by simpa using hb
   rw [Fo (by omega),List.mem_append] at ha'
   rcases ha' with ha' | ha'
   ·have h2 := ha
    rw [Fo (by omega),Asc,List.pairwise_append] at h2
    have := h2.2.2 a ha' _ (List.mem_singleton.mpr rfl)
    omega
   ·have : a = L.getD j 0 := by simpa using ha'
    omega
 ·intro _ ha
  refine Ok.ret (whole ?_)
  have : Int.toNat (((L.length : Nat) : Int) - 1) + 1 = L.length := by omega
  rw [this,List.take_length] at ha
  exact ha
theorem sortU_ok {L : List Int} (hl : L.length ≤ 1000) : ∃ M,He L = some M ∧ M.length = L.length ∧ ∃ r,Hu M = some r ∧ r.2.length = M.length ∧ r.1 ≤ M.length ∧ Asc (r.2.take r.1) ∧ ∀ x,x ∈ r.2.take r.1 ↔ x ∈ L := by
 obtain ⟨M,h1,h2,h3⟩ := Sort_ok L hl
 have hlen := h2.length_eq
 obtain ⟨r,g1,g2,g3,g4,g5⟩ := Agd (L := M) (by omega) h3
 exact ⟨M,h1,hlen,r,g1,g2,g3,g4,fun x => (g5 x).trans h2.mem_iff⟩
end Go.Dm

/- Plain theory, part 30: what keeps Fits; all made hierarchies fit. -/
namespace Go.Dm
section
variable {t t' : Ac} {fn : Ai → Ai}
end
section
variable {t t' : Ac} {p : Int} {s : ByteArray}
end
end Go.Dm

/- Plain theory, part 31: threaded's functions. -/
namespace Go.Dm
theorem AeN {t : Ac} (hm : ∀ x ∈ t.nodes,Abw x) (w : ¬ WfT t) : Nd t = some false := by
 obtain ⟨b,hb,e⟩ := Aan t hm
 cases b
 ·exact hb
 ·exact absurd (e.mp rfl) w
end Go.Dm

/- Plain theory, part 32: new groups. -/
namespace Go.Dm
end Go.Dm

/- Plain theory, part 33: controllers are written, groups are made threaded. -/
namespace Go.Dm
end Go.Dm

/- Plain theory, part 34: names of made groups are short. -/
namespace Go.Dm
end Go.Dm

/- Plain theory, part 35: rights of users. -/
namespace Go.Dm
end Go.Dm

/- Plain theory, part 36: acts of users. -/
namespace Go.Dm
theorem Ys (l : List Int) (hl : l.length ≤ 1000000) : Hf l l = some true := by
 unfold Hf
 rw [if_neg (by simp),if_pos (by omega)]
 apply Ok.eq
 refine Ok.range (fun _ _ => True) trivial ?_ fun _ _ => Ok.ret rfl
 intro pre x post s n he _ hn
 unfold Ym
 have hi : pre.length < l.length := by
  rw [he]
  simp
 rw [if_pos hi]
 have : l.getD pre.length 0 = x := by
  rw [he]
  exact Wq
 rw [this,if_neg (by simp)]
 exact hn () trivial
end Go.Dm

/- Plain theory, part 40: what is read of any hierarchy; processes; hierarchies that were handed in. -/
namespace Go.Dm
end Go.Dm

/- Plain theory of freezers, part 1: what is read; valid freezers. -/
namespace Go.Dm
def zF (g : Int) : Frost := { group := g,want := false,frozen := false,changes := 0 }
def frN (f : Yq) (g : Int) : Frost := (f.frosts.find? (fun x => x.group == g)).getD (zF g)
def wN (t : Ac) (f : Yq) (id : Int) : Bool := (upT t id).any (fun g => (frN f g).want)
def rN (h : Abb) (f : Yq) (id : Int) : Bool := wN h.tree f id && h.tasks.all (fun x => !(upT h.tree x.group).contains id || f.stopped.contains x.id)
section
variable {h : Abb} {t : Ac} {f f' : Yq}
theorem Acd {pre : List Int} {x : Int} (a : Asc pre) (h1 : ∀ y ∈ pre,y < x) : Asc (pre ++ [x]) := by
 rw [Asc,List.pairwise_append]
 exact ⟨a,by simp,fun y hy z hz => by rw [List.mem_singleton.mp hz]; exact h1 y hy⟩
end
end Go.Dm

/- Plain theory of freezers, part 2: what changes make of them. -/
namespace Go.Dm
theorem Aah (l : List Int) (x : Int) (hl : l.length ≤ 9223372036854775807) : Hi l x = some (l.contains x) := by
 unfold Hi Mz
 rw [if_pos (by omega),Ob (p := fun y : Int => x == y) (fun k y n => rfl) rfl,Option.bind_some]
 rcases Uc (fun y : Int => x == y) l 0 with ⟨i,h1,h2,h3⟩ | ⟨h1,h2⟩
 ·rw [h2]
  have hm := List.mem_of_find?_eq_some h3
  have he := List.find?_some h3
  have : l.contains x = true := by
   rw [List.contains_iff_mem]
   have : x = l.getD i 0 := by simpa using he
   rw [this]
   exact hm
  rw [this]
  simp
 ·rw [h1]
  have : l.contains x = false := by
   rw [List.find?_eq_none] at h2
   cases hc : l.contains x
   ·rfl
   ·rw [List.contains_iff_mem] at hc
    have := h2 x hc
    simp at this
  rw [this]
  simp
theorem Aem (l : List Int) (x : Int) (hl : l.length ≤ 9223372036854775807) : Wb l x = some (l.contains x) := by
 unfold Wb
 rw [if_pos (by omega),AcK (p := fun y : Int => y == x) (f := fun _ => true) (z := false) (fun k y n => rfl) rfl]
 congr 1
 cases hf : l.find? (fun y => y == x) with
 | none =>
  rw [List.find?_eq_none] at hf
  cases hc : l.contains x
  ·rfl
  ·rw [List.contains_iff_mem] at hc
   have := hf x hc
   simp at this
 | some y =>
  have hm := List.mem_of_find?_eq_some hf
  have he := List.find?_some hf
  have : y = x := by simpa using he
  rw [this] at hm
  simp [hm]
section
variable {h : Abb} {f : Yq}
theorem Rk {l : List Int} (hl : l.length ≤ 1000000) : Dq l = some l := by
 unfold Dq
 rw [if_pos (by omega)]
end
end Go.Dm

/- Plain theory of processor sets, part 1: settings, sets of small numbers. -/
namespace Go.Dm
set_option linter.unusedVariables false
set_option linter.unusedSimpArgs false
def okSet (n : Int) (L : List Int) : Prop := Asc L ∧ ∀ x ∈ L,0 ≤ x ∧ x < n
theorem Adn : ∀ {L : List Int} {a n : Int},Asc L → (∀ x ∈ L,a ≤ x ∧ x < n) → (L.length : Int) ≤ max 0 (n - a)
 | [],a,n,_,_ => by simp; omega
 | x :: r,a,n,h,hb => by
  rw [Asc,List.pairwise_cons] at h
  have hx := hb x (by simp)
  have ih := Adn (L := r) (a := x + 1) (n := n) h.2 (fun y hy => ⟨by have := h.1 y hy; omega,(hb y (by simp [hy])).2⟩)
  simp only [List.length_cons]
  omega
theorem okSet.len {n : Int} {L : List Int} (h : okSet n L) (hn : 0 ≤ n) : (L.length : Int) ≤ n := by
 have := Adn h.1 h.2
 omega
theorem Dv {m : Option Bool} {rest : Option Bool} {P R : Prop} (h : Ok m (fun b => b = true ↔ P)) (k : P → Ok rest (fun b => b = true ↔ R)) : Ok (Option.bind m fun r => if r then rest else some false) (fun b => b = true ↔ P ∧ R) := by
 refine Ok.bind h fun r hr => Ok.ite (fun c => ?_) fun c => Ok.ret ?_
 ·have hp := hr.mp c
  exact (k hp).mono fun b hb => by rw [hb]; simp [hp]
 ·have : ¬ P := fun hp => by rw [hr.mpr hp] at c; simp at c
  simp [this]
theorem Vh {m : Option Bool} {P : Prop} (h : Ok m (fun b => b = true ↔ P)) : Ok (Option.bind m fun r => some r) (fun b => b = true ↔ P) := Ok.bind h fun r hr => Ok.ret hr
theorem Ha (a lo hi : Int) : Ok (Ck a lo hi) (fun b => b = true ↔ (lo ≤ a ∧ a ≤ hi)) := by
 unfold Ck
 exact Ok.ret (by simp)
theorem Gu (a lo hi : Int) : Ok (Ew a lo hi) (fun b => b = true ↔ ((lo ≤ a ∧ a ≤ hi) ∨ a = 4611686018427387904)) := by
 unfold Ew
 exact Ok.ret (by simp)
theorem prev_ok {pre post : List Int} {x d : Int} (hl : pre.length + 1 ≤ 9223372036854775807) (h : 0 < pre.length) : w64 (((pre.length : Nat) : Int) - 1) = ((pre.length - 1 : Nat) : Int) := by
 rw [Ao (by omega) (by omega)]
 omega
theorem Mv (L : List Int) (n : Int) (hl : L.length ≤ 9223372036854775807) : Ok (Jf L n) (fun b => b = true ↔ okSet n L) := by
 unfold Jf
 refine Ok.guard hl ?_
 refine Ok.range (fun pre _ => okSet n pre) ⟨List.Pairwise.nil,fun x hx => by simp at hx⟩ ?_ fun _ h => Ok.ret (by simp [h])
 intro pre x post s m he hp hn
 unfold Vu Kw
 have hlen : pre.length + 1 ≤ L.length := by rw [he]; simp
 refine Ok.ite (fun c => Ok.ret ?_) fun c => Ok.ite (fun c2 => Ok.ret ?_) fun c2 => ?_
 ·have c := of_decide_eq_true c
  simp only [Bool.false_eq_true,false_iff]
  intro ⟨_,hb⟩
  have := hb x (by rw [he]; simp)
  omega
 ·have c2 := of_decide_eq_true c2
  simp only [Bool.false_eq_true,false_iff]
  intro ⟨_,hb⟩
  have := hb x (by rw [he]; simp)
  omega
 ·have c := of_decide_eq_false c
  have c2 := of_decide_eq_false c2
  refine Ok.ite (fun c3 => ?_) fun c3 => ?_
  ·have c3 := of_decide_eq_true c3
   have h0 : 0 < pre.length := by omega
   rw [prev_ok (post := post) (x := x) (d := 0) (by omega) h0]
   refine Ok.guard (by omega) ?_
   have hlast : L.getD (pre.length - 1) 0 = pre.getD (pre.length - 1) 0 := by
    rw [he,List.getD_eq_getElem?_getD,List.getD_eq_getElem?_getD,List.getElem?_append_left (by omega)]
   simp only [Int.toNat_natCast,hlast]
   refine Ok.ite (fun c4 => Ok.ret ?_) fun c4 => ?_
   ·have c4 := of_decide_eq_true c4
    simp only [Bool.false_eq_true,false_iff]
    intro ⟨ha,_⟩
    rw [he,Asc,List.pairwise_append] at ha
    have := ha.2.2 (pre.getD (pre.length - 1) 0) (Pl (by omega)) x (by simp)
    omega
   ·have c4 := of_decide_eq_false c4
    refine hn () ⟨?_,fun y hy => ?_⟩
    ·refine Acd hp.1 fun y hy => ?_
     obtain ⟨j,hj,rfl⟩ := List.getElem_of_mem hy
     have hle : pre[j] ≤ pre.getD (pre.length - 1) 0 := by
      have := le_at (L := pre) (hp.1.imp (fun h => Int.le_of_lt h)) (i := j) (j := pre.length - 1) (by omega) (by omega)
      rwa [Dy hj] at this
     omega
    ·rcases List.mem_append.mp hy with h | h
     ·exact hp.2 y h
     ·simp at h; subst h; omega
  ·have c3 := of_decide_eq_false c3
   have h0 : pre = [] := List.eq_nil_of_length_eq_zero (by omega)
   subst h0
   refine Ok.ite (fun c => by simp at c) fun _ => hn () ⟨by simp [Asc],fun y hy => by simp at hy; subst hy; omega⟩
theorem Xu (m : Gw) : ∃ b,Fp m = some b := by
 obtain ⟨b,h,_⟩ : Ok (Fp m) (fun _ => True) := by
  unfold Fp Ge
  refine Ok.bind (Gu _ _ _) fun _ _ => Ok.ite (fun _ => ?_) fun _ => Ok.ret trivial
  refine Ok.bind (Gu _ _ _) fun _ _ => Ok.ite (fun _ => ?_) fun _ => Ok.ret trivial
  refine Ok.bind (Gu _ _ _) fun _ _ => Ok.ite (fun _ => ?_) fun _ => Ok.ret trivial
  refine Ok.bind (Gu _ _ _) fun _ _ => Ok.ite (fun _ => ?_) fun _ => Ok.ret trivial
  exact Ok.bind (Gu _ _ _) fun _ _ => Ok.ret trivial
 exact ⟨b,h⟩
theorem Wa (L : List Aq) (hl : L.length ≤ 9223372036854775807) : ∃ b,Fe L = some b := by
 obtain ⟨b,h,_⟩ : Ok (Fe L) (fun _ => True) := by
  unfold Fe
  refine Ok.guard hl ?_
  refine Ok.range (fun _ _ => True) trivial ?_ fun _ _ => Ok.ret trivial
  intro pre x post s n he _ hn
  have hlen : pre.length + 1 ≤ L.length := by rw [he]; simp
  have hj : ∀ b,Ok (Az n b) (fun _ => True) := by
   intro b
   unfold Az
   exact Ok.ite (fun _ => Ok.ret trivial) fun _ => hn () trivial
  unfold Pc
  refine Ok.ite (fun _ => hj _) fun _ => Ok.ite (fun _ => hj _) fun _ => Ok.ite (fun c3 => ?_) fun _ => ?_
  ·have c3 := of_decide_eq_true c3
   refine Ok.guard (by rw [Ao (by omega) (by omega)]; omega) ?_
   refine Ok.ite (fun _ => hj _) fun _ => Ok.ite (fun _ => hj _) fun _ => Ok.ite (fun _ => hj _) fun _ => ?_
   refine Ok.bind (Gu _ _ _) fun _ _ => Ok.ite (fun _ => hj _) fun _ => ?_
   refine Ok.bind (Gu _ _ _) fun _ _ => Ok.ite (fun _ => hj _) fun _ => ?_
   refine Ok.bind (Gu _ _ _) fun _ _ => Ok.ite (fun _ => hj _) fun _ => ?_
   refine Ok.bind (Gu _ _ _) fun _ _ => Ok.ite (fun _ => hj _) fun _ => ?_
   exact Ok.ite (fun _ => hj _) fun _ => hj _
  ·refine Ok.ite (fun _ => hj _) fun _ => Ok.ite (fun _ => hj _) fun _ => ?_
   refine Ok.bind (Gu _ _ _) fun _ _ => Ok.ite (fun _ => hj _) fun _ => ?_
   refine Ok.bind (Gu _ _ _) fun _ _ => Ok.ite (fun _ => hj _) fun _ => ?_
   refine Ok.bind (Gu _ _ _) fun _ _ => Ok.ite (fun _ => hj _) fun _ => ?_
   refine Ok.bind (Gu _ _ _) fun _ _ => Ok.ite (fun _ => hj _) fun _ => ?_
   exact Ok.ite (fun _ => hj _) fun _ => hj _
 exact ⟨b,h⟩
def BandP (s : As) : Prop := (1 ≤ s.period ∧ s.period ≤ 1000000) ∧ if s.quota = 4611686018427387904 then s.burst = 0 else (1 ≤ s.quota ∧ s.quota ≤ 1000000) ∧ 0 ≤ s.burst ∧ s.burst ≤ s.quota
theorem Aak (s : As) : Ok (Hs s) (fun b => b = true ↔ BandP s) := by
 unfold Hs Ik Gz BandP
 refine Ok.ite (fun c => ?_) fun c => ?_
 ·have c := beq_iff_eq.mp c
  rw [if_pos c]
  exact Dv (Ha _ _ _) fun _ => Ok.ret (by simp)
 ·have c : ¬ s.quota = 4611686018427387904 := by simpa using c
  rw [if_neg c]
  exact Dv (Ha _ _ _) fun _ => Dv (Ha _ _ _) fun _ => Vh (Ha _ _ _)
def RestP (s : As) : Prop :=
 (1 ≤ s.weight ∧ s.weight ≤ 10000) ∧ BandP s ∧ (0 ≤ s.clampMin ∧ s.clampMin ≤ 10000) ∧ (0 ≤ s.clampMax ∧ s.clampMax ≤ 10000) ∧ okSet 16 s.cpus ∧ okSet 8 s.mems ∧ (0 ≤ s.partition ∧ s.partition ≤ 1) ∧
 Fp s.memory = some true ∧ Fe s.devices = some true
def CheckP (s : As) : Prop := (s.pidsMax = 4611686018427387904 ∨ (0 ≤ s.pidsMax ∧ s.pidsMax ≤ 1099511627776)) ∧ RestP s
structure Hj (s : As) : Prop where
 cpus : s.cpus.length ≤ 1000000
 mems : s.mems.length ≤ 1000000
 devices : s.devices.length ≤ 1000000
theorem Abj {m : Option Bool} (h : ∃ b,m = some b) : Ok m (fun b => b = true ↔ m = some true) := by
 obtain ⟨b,h⟩ := h
 exact ⟨b,h,by rw [h]; simp⟩
theorem AaA {s : As} (hs : Hj s) : Ok (Lz s) (fun b => b = true ↔ CheckP s) := by
 have h1 := hs.cpus
 have h2 := hs.mems
 have h3 := hs.devices
 unfold Lz Bm CheckP
 refine Ok.ite (fun c => ?_) fun c => ?_
 ·have c := beq_iff_eq.mp c
  have : (s.pidsMax = 4611686018427387904 ∨ (0 ≤ s.pidsMax ∧ s.pidsMax ≤ 1099511627776)) ↔ True := by simp [c]
  rw [this,true_and]
  exact Dv (Ha _ _ _) fun _ => Dv (Aak s) fun _ => Dv (Ha _ _ _) fun _ => Dv (Ha _ _ _) fun _ => Dv (Mv _ _ (by omega)) fun _ =>
   Dv (Mv _ _ (by omega)) fun _ => Dv (Ha _ _ _) fun _ => Dv (Abj (Xu _)) fun _ => Vh (Abj (Wa _ (by omega)))
 ·have c : ¬ s.pidsMax = 4611686018427387904 := by simpa using c
  have : (s.pidsMax = 4611686018427387904 ∨ (0 ≤ s.pidsMax ∧ s.pidsMax ≤ 1099511627776)) ↔ (0 ≤ s.pidsMax ∧ s.pidsMax ≤ 1099511627776) := by simp [c]
  rw [this]
  exact Dv (Ha _ _ _) fun _ => Dv (Ha _ _ _) fun _ => Dv (Aak s) fun _ => Dv (Ha _ _ _) fun _ => Dv (Ha _ _ _) fun _ => Dv (Mv _ _ (by omega)) fun _ =>
   Dv (Mv _ _ (by omega)) fun _ => Dv (Ha _ _ _) fun _ => Dv (Abj (Xu _)) fun _ => Vh (Abj (Wa _ (by omega)))
def dfS : As := { pidsMax := 4611686018427387904,weight := 100,quota := 4611686018427387904,period := 100000,burst := 0,clampMin := 0,clampMax := 10000,cpus := [],mems := [],partition := 0,memory := { min := 0,low := 0,high := 4611686018427387904,max := 4611686018427387904,swapMax := 4611686018427387904,together := false },devices := [] }
def cfg (l : List Ab) (g : Int) : As := (l.find? (fun x => x.group == g)).elim dfS (·.settings)
theorem AcS : CheckP dfS := by
 have e1 : Fp dfS.memory = some true := by kernel_rfl
 have e2 : Fe dfS.devices = some true := by kernel_rfl
 refine ⟨.inl rfl,⟨by simp [dfS],by simp [dfS]⟩,?_,by simp [dfS],by simp [dfS],⟨List.Pairwise.nil,fun x hx => by simp [dfS] at hx⟩,⟨List.Pairwise.nil,fun x hx => by simp [dfS] at hx⟩,by simp [dfS],e1,e2⟩
 unfold BandP
 simp [dfS]
theorem Aas : Hj dfS := ⟨by simp [dfS],by simp [dfS],by simp [dfS]⟩
theorem Aeg {s : As} (h : Hj s) : Sr s = some s := by
 have h1 := h.cpus
 have h2 := h.mems
 have h3 := h.devices
 unfold Sr
 rw [if_pos (by omega),if_pos (by omega),if_pos (by omega)]
theorem Ack {s : As} (h : Hj s) : Ns s = some s := by
 have h1 := h.cpus
 have h2 := h.mems
 have h3 := h.devices
 unfold Ns Ei
 rw [Rk (by omega),Option.bind_some,Rk (by omega),Option.bind_some,if_pos (by omega),Option.bind_some]
theorem AeI {l : List Ab} (hl : l.length ≤ 1000000) (h : ∀ x ∈ l,Hj x.settings) (g : Int) : My l g = some (cfg l g) := by
 unfold My
 rw [if_pos (by omega)]
 apply Ok.eq
 refine Ok.range (fun pre _ => ∀ x ∈ pre,(x.group == g) = false) (by simp) ?_ ?_
 ·intro pre x post s n he hp hn
  unfold To
  refine Ok.ite (fun c => ?_) fun c => hn () ?_
  ·rw [Aeg (h x (by rw [he]; simp)),Option.bind_some]
   refine Ok.ret ?_
   have hf : l.find? (fun x => x.group == g) = some x := by
    rw [he,List.find?_append,List.find?_eq_none.mpr (fun y hy => by rw [hp y hy]; simp),Option.none_or,List.find?_cons,c]
   unfold cfg
   rw [hf]
   rfl
  ·intro y hy
   rcases List.mem_append.mp hy with h | h
   ·exact hp y h
   ·simp at h; subst h; exact c
 ·intro s hp
  refine Ok.of_eq (b := dfS) rfl ?_
  have hf : l.find? (fun x => x.group == g) = none := List.find?_eq_none.mpr (fun y hy => by rw [hp y hy]; simp)
  unfold cfg
  rw [hf]
  rfl
theorem Xr {l : List Ab} (hl : l.length ≤ 1000000) (h : ∀ x ∈ l,Hj x.settings) (g : Int) : Mf l g = some (cfg l g) := by
 unfold Mf Tm Es
 rw [if_pos (by omega),Ob (p := fun x : Ab => x.group == g) (fun k x n => by
  unfold Gb Qq
  rw [Option.bind_some]) rfl,Option.bind_some,Option.bind_some]
 rcases Uc (fun x : Ab => x.group == g) l default with ⟨i,h1,h2,h3⟩ | ⟨h1,h2⟩
 ·rw [h2,Option.elim_some,if_neg (by simp),if_pos (by omega)]
  simp only [Int.toNat_natCast]
  rw [Ack (h _ (Pl h1)),Option.bind_some]
  unfold cfg
  rw [h3]
  rfl
 ·rw [h1,Option.elim_none,if_pos (by simp)]
  unfold cfg
  rw [h2]
  rfl
end Go.Dm

/- Plain theory of processor sets, part 2: what is within, in both, in one alone; settings that fit. -/
namespace Go.Dm
set_option linter.unusedVariables false
set_option linter.unusedSimpArgs false
theorem Rz {L : List Int} (p : Int → Bool) (h : Asc L) : Asc (L.filter p) := h.sublist List.filter_sublist
theorem Yi (L : List Int) (x : Int) (hl : L.length ≤ 9223372036854775807) : Qz L x = some (L.contains x) := by
 unfold Qz
 rw [Aah L x hl,Option.bind_some]
theorem Adm {A B : List Int} (ha : A.length ≤ 1000000) (hb : B.length ≤ 9223372036854775807) : Oh A B = some (A.all (fun x => B.contains x)) := by
 unfold Oh Er Fh
 rw [if_pos (by omega),Ob (p := fun x : Int => !B.contains x) (fun k x n => by
  unfold Gq Qs
  rw [Yi _ _ hb,Option.bind_some,Option.bind_some]) rfl,Option.bind_some,Option.bind_some]
 rcases Uc (fun x : Int => !B.contains x) A 0 with ⟨i,h1,h2,h3⟩ | ⟨h1,h2⟩
 ·rw [h2,Option.elim_some]
  congr 1
  have hx := List.find?_some h3
  have : A.all (fun x => B.contains x) = false := by
   rw [Bool.eq_false_iff]
   intro hall
   rw [List.all_eq_true] at hall
   have := hall _ (List.mem_of_find?_eq_some h3)
   rw [this] at hx
   simp at hx
  rw [this]
  simp
 ·rw [h1,Option.elim_none]
  congr 1
  have : A.all (fun x => B.contains x) = true := by
   rw [List.all_eq_true]
   intro x hx
   rw [List.find?_eq_none] at h2
   have := h2 x hx
   simpa using this
  rw [this]
  rfl
theorem Adt {L : List Int} (hl : L.length ≤ 1000) : Ok (Lt L) (fun r => Asc r ∧ (∀ x,x ∈ r ↔ x ∈ L) ∧ r.length ≤ L.length) := by
 unfold Lt
 obtain ⟨M,m1,m2,r,r1,r2,r3,r4,r5⟩ := sortU_ok hl
 rw [Rk (by omega),Option.bind_some,m1,Option.bind_some,if_pos m2.symm,r1,Option.bind_some,if_pos r2.symm,if_pos (by omega)]
 refine Ok.ret ⟨r4,r5,?_⟩
 rw [List.length_take]
 omega
theorem Xa {L : List Int} (hl : L.length ≤ 1000) (h : Asc L) : Lt L = some L := by
 obtain ⟨r,h1,h2,h3,_⟩ := Adt hl
 rw [h1,Abu h2 h h3]
theorem Aal {B : List Int} (hb : B.length ≤ 9223372036854775807) (x : Int) : Ff x B = some (B.contains x) := by
 unfold Ff Sa
 rw [Yi _ _ hb,Option.bind_some,Option.bind_some,Bool.not_not]
theorem Aag {B : List Int} (hb : B.length ≤ 9223372036854775807) (x : Int) : Dt x B = some (!B.contains x) := by
 unfold Dt Nh
 rw [Yi _ _ hb,Option.bind_some,Option.bind_some]
theorem Acm {B : List Int} (hb : B.length ≤ 9223372036854775807) (L : List Int) (h2 : L.length ≤ 1000000) :
  Ok (Cd L B) (fun r => r.2.1.length = L.length ∧ r.1 ≤ L.length ∧ r.2.1.take r.1 = L.filter (fun x => !B.contains x) ∧ r.2.2 = B) := by
 unfold Cd Cy
 rw [if_pos (by omega),Ob (p := fun x => B.contains x) (fun k x n => by
  unfold Dz
  rw [Aal hb,Option.bind_some]) rfl]
 refine Ok.step rfl ?_
 rcases Uc (fun x => B.contains x) L 0 with ⟨i,h1,h2',h3⟩ | ⟨h1,h2'⟩
 ·rw [h2',Option.elim_some]
  refine Ok.ite (fun c => by have := beq_iff_eq.mp c; omega) fun _ => ?_
  have e1 : w64 ((i : Int) + 1) = ((i + 1 : Nat) : Int) := by
   rw [Ao (by omega) (by omega)]
   omega
  rw [e1]
  have hh := List.findIdx?_eq_some_iff_getElem.mp h2'
  obtain ⟨g1,g2,g3⟩ := hh
  refine AbZ (p := fun x => B.contains x) (d := 0) h2 h1 ?_ ?_ ?_ ?_
  ·intro x hx
   obtain ⟨j,hj,rfl⟩ := List.getElem_of_mem hx
   rw [List.length_take] at hj
   rw [List.getElem_take]
   have := g3 j (by omega)
   simpa using this
  ·rw [Dy h1]
   exact g2
  ·intro M i j n hM hij hj hn
   unfold Cr Cb
   simp only
   have ei : Int.toNat (i : Int) = i := by omega
   have ej : Int.toNat (j : Int) = j := by omega
   rw [ei,ej]
   refine Ok.ite (fun _ => ?_) fun c => by
    have := of_decide_eq_false c
    omega
   refine Ok.guard (by omega) (Ok.guard (by omega) ?_)
   rw [Aal hb,Option.bind_some]
   have ej1 : w64 ((j : Int) + 1) = ((j + 1 : Nat) : Int) := by
    rw [Ao (by omega) (by omega)]
    omega
   have ei1 : w64 ((i : Int) + 1) = ((i + 1 : Nat) : Int) := by
    rw [Ao (by omega) (by omega)]
    omega
   rw [ej1,ei1]
   refine Ok.ite (fun c => ?_) fun c => ?_
   ·refine Ok.guard (by omega) (Ok.guard (by omega) (hn _ ?_))
    rw [if_neg]
    simpa using c
   ·refine hn _ ?_
    rw [if_pos]
    rw [Bool.not_eq_false'] at c
    exact c
  ·intro M i n hM hi ht
   unfold Cr
   simp only
   have ei : Int.toNat (i : Int) = i := by omega
   rw [ei,Gy]
   refine Ok.ite (fun c => by have := of_decide_eq_true c; omega) fun _ => ?_
   have hfl : (Hz M i (M.length - i) (0 : Int)).length = M.length := Wj (by omega)
   refine Ok.guard (by omega) (Ok.guard (by omega) (Ok.guard (by rw [hfl]; omega) (Ok.ret ⟨by simp only; rw [hfl,hM],hi,?_,rfl⟩)))
   simp only
   rw [Uw (by omega),ht]
 ·rw [h1,Option.elim_none]
  refine Ok.ite (fun _ => Ok.ret ⟨rfl,Nat.le_refl _,?_,rfl⟩) fun c => by simp at c
  simp only [List.take_length]
  symm
  rw [List.filter_eq_self]
  intro x hx
  rw [List.find?_eq_none] at h2'
  have := h2' x hx
  simpa using this
theorem Acq {B : List Int} (hb : B.length ≤ 9223372036854775807) (L : List Int) (h2 : L.length ≤ 1000000) :
  Ok (Bx L B) (fun r => r.2.1.length = L.length ∧ r.1 ≤ L.length ∧ r.2.1.take r.1 = L.filter (fun x => B.contains x) ∧ r.2.2 = B) := by
 have hff : L.filter (fun x => !(!B.contains x)) = L.filter (fun x => B.contains x) := by
  congr 1
  funext x
  simp
 unfold Bx Co
 rw [if_pos (by omega),Ob (p := fun x => !B.contains x) (fun k x n => by
  unfold Dj
  rw [Aag hb,Option.bind_some]) rfl]
 refine Ok.step rfl ?_
 rcases Uc (fun x => !B.contains x) L 0 with ⟨i,h1,h2',h3⟩ | ⟨h1,h2'⟩
 ·rw [h2',Option.elim_some]
  refine Ok.ite (fun c => by have := beq_iff_eq.mp c; omega) fun _ => ?_
  have e1 : w64 ((i : Int) + 1) = ((i + 1 : Nat) : Int) := by
   rw [Ao (by omega) (by omega)]
   omega
  rw [e1]
  have hh := List.findIdx?_eq_some_iff_getElem.mp h2'
  obtain ⟨g1,g2,g3⟩ := hh
  refine AbZ (p := fun x => !B.contains x) (d := 0) h2 h1 ?_ ?_ ?_ ?_
  ·intro x hx
   obtain ⟨j,hj,rfl⟩ := List.getElem_of_mem hx
   rw [List.length_take] at hj
   rw [List.getElem_take]
   have := g3 j (by omega)
   simpa using this
  ·rw [Dy h1]
   exact g2
  ·intro M i j n hM hij hj hn
   unfold Cl Bt
   simp only
   have ei : Int.toNat (i : Int) = i := by omega
   have ej : Int.toNat (j : Int) = j := by omega
   rw [ei,ej]
   refine Ok.ite (fun _ => ?_) fun c => by
    have := of_decide_eq_false c
    omega
   refine Ok.guard (by omega) (Ok.guard (by omega) ?_)
   rw [Aag hb,Option.bind_some]
   have ej1 : w64 ((j : Int) + 1) = ((j + 1 : Nat) : Int) := by
    rw [Ao (by omega) (by omega)]
    omega
   have ei1 : w64 ((i : Int) + 1) = ((i + 1 : Nat) : Int) := by
    rw [Ao (by omega) (by omega)]
    omega
   rw [ej1,ei1]
   refine Ok.ite (fun c => ?_) fun c => ?_
   ·refine Ok.guard (by omega) (Ok.guard (by omega) (hn _ ?_))
    rw [if_neg]
    simpa using c
   ·refine hn _ ?_
    rw [if_pos]
    rw [Bool.not_eq_false'] at c
    exact c
  ·intro M i n hM hi ht
   unfold Cl
   simp only
   have ei : Int.toNat (i : Int) = i := by omega
   rw [ei,Gy]
   refine Ok.ite (fun c => by have := of_decide_eq_true c; omega) fun _ => ?_
   have hfl : (Hz M i (M.length - i) (0 : Int)).length = M.length := Wj (by omega)
   refine Ok.guard (by omega) (Ok.guard (by omega) (Ok.guard (by rw [hfl]; omega) (Ok.ret ⟨by simp only; rw [hfl,hM],hi,?_,rfl⟩)))
   simp only
   rw [Uw (by omega),ht]
   exact hff
 ·rw [h1,Option.elim_none]
  refine Ok.ite (fun _ => Ok.ret ⟨rfl,Nat.le_refl _,?_,rfl⟩) fun c => by simp at c
  simp only [List.take_length]
  symm
  rw [List.filter_eq_self]
  intro x hx
  rw [List.find?_eq_none] at h2'
  have := h2' x hx
  simpa using this
def Qk (A B : List Int) : List Int := A.filter (fun x => !B.contains x)
def Mo (A B : List Int) : List Int := A.filter (fun x => B.contains x)
def Kf (A B : List Int) : List Int := if (Mo A B).length > 0 then Mo A B else B
theorem Aeq {A B : List Int} (h : Asc A) (ha : A.length ≤ 1000) (hb : B.length ≤ 9223372036854775807) : Ps A B = some (Qk A B) := by
 unfold Ps Iv
 obtain ⟨r,d1,d2,d3,d4,d5⟩ := Acm hb A (by omega)
 rw [Xa ha h,Option.bind_some,d1,Option.bind_some,if_pos d2.symm,if_pos (by omega),Option.bind_some,d4]
 rfl
theorem AbB {A B : List Int} (h : Asc A) (ha : A.length ≤ 1000) (hb : B.length ≤ 9223372036854775807) : Mq A B = some (Mo A B) := by
 unfold Mq Hh
 obtain ⟨r,d1,d2,d3,d4,d5⟩ := Acq hb A (by omega)
 rw [Xa ha h,Option.bind_some,d1,Option.bind_some,if_pos d2.symm,if_pos (by omega),Option.bind_some,d4]
 rfl
theorem among_eq {A B : List Int} (h : Asc A) (ha : A.length ≤ 1000) (hb : B.length ≤ 1000) : Pb A B = some (Kf A B) := by
 unfold Pb Kf
 rw [AbB h ha (by omega),Option.bind_some]
 by_cases c : (Mo A B).length > 0
 ·rw [if_pos c,if_pos (by simpa using c)]
 ·rw [if_neg c,if_neg (by simpa using c),Rk (by omega),Option.bind_some]
structure FitsS (t : Ac) (l : List Ab) : Prop where
 wf : WfT t
 grp : l.map (·.group) = t.nodes.map (·.id)
 chk : ∀ x ∈ l,CheckP x.settings
theorem FitsS.len {t : Ac} {l : List Ab} (f : FitsS t l) : l.length = t.nodes.length := by
 have := congrArg List.length f.grp
 simpa using this
theorem AbA {t : Ac} {l : List Ab} (hm : ∀ x ∈ t.nodes,Abw x) (ht : t.nodes.length ≤ 1000000) (hl : l.length ≤ 1000000) (hs : ∀ x ∈ l,Hj x.settings) : Ok (Oa t l) (fun b => b = true ↔ FitsS t l) := by
 unfold Oa
 by_cases w : WfT t
 ·rw [AeD w,Option.bind_some,if_neg (by simp)]
  unfold Jt
  refine Ok.ite (fun c => Ok.ret ?_) fun c => ?_
  ·have c : ¬ ((l.length : Nat) : Int) = ((t.nodes.length : Nat) : Int) := by simpa using c
   simp only [Bool.false_eq_true,false_iff]
   intro f
   have := f.len
   omega
  ·have hlen : l.length = t.nodes.length := by
    have c : ((l.length : Nat) : Int) = ((t.nodes.length : Nat) : Int) := by simpa using c
    omega
   refine Ok.guard (by omega) ?_
   refine Ok.range (fun pre _ => (l.take pre.length).map (·.group) = pre.map (·.id) ∧ ∀ x ∈ l.take pre.length,CheckP x.settings) ⟨by simp,by simp⟩ ?_ ?_
   ·intro pre x post s n he hp hn
    unfold Sg Li
    have hpl : pre.length + 1 ≤ t.nodes.length := by rw [he]; simp
    have htk : l.take (pre.length + 1) = l.take pre.length ++ [l.getD pre.length default] := by
     rw [List.take_add_one,List.getElem?_eq_getElem (by omega),Option.toList_some,Dy (by omega)]
    have hmem : l.getD pre.length default ∈ l := Pl (by omega)
    have hx : t.nodes.getD pre.length default = x := by rw [he]; exact Wq
    refine Ok.guard (by omega) (Ok.ite (fun c => Ok.ret ?_) fun c => Ok.guard (by omega) ?_)
    ·have c : ¬ (l.getD pre.length default).group = x.id := by simpa using c
     simp only [Bool.false_eq_true,false_iff]
     intro f
     apply c
     have := congrArg (fun q => q[pre.length]?) f.grp
     simp only [List.getElem?_map] at this
     rw [List.getElem?_eq_getElem (by omega),List.getElem?_eq_getElem (by omega)] at this
     simp only [Option.map_some,Option.some.injEq] at this
     rw [Dy (by omega),this,← Dy (d := default) (by omega),hx]
    ·have c : (l.getD pre.length default).group = x.id := by simpa using c
     obtain ⟨b,hb,hbi⟩ := AaA (hs _ hmem)
     rw [hb,Option.bind_some]
     refine Ok.ite (fun c2 => Ok.ret ?_) fun c2 => hn () ⟨?_,?_⟩
     ·simp only [Bool.false_eq_true,false_iff]
      intro f
      rw [hbi.mpr (f.chk _ hmem)] at c2
      simp at c2
     ·rw [List.length_append,List.length_singleton,htk,List.map_append,List.map_append,hp.1,List.map_singleton,List.map_singleton,c]
     ·rw [List.length_append,List.length_singleton,htk]
      intro y hy
      rcases List.mem_append.mp hy with h | h
      ·exact hp.2 y h
      ·simp only [List.mem_singleton] at h
       subst h
       exact hbi.mp (by simpa using c2)
   ·intro s hp
    refine Ok.of_eq (b := true) rfl ?_
    have : l.take t.nodes.length = l := List.take_of_length_le (by omega)
    rw [this] at hp
    simp only [true_iff]
    exact ⟨w,hp.1,hp.2⟩
 ·rw [AeN hm w,Option.bind_some,if_pos (by simp)]
  unfold Jt
  rw [if_pos rfl]
  exact Ok.ret (by simp only [Bool.false_eq_true,false_iff]; exact fun f => w f.wf)
structure Usable (t : Ac) (l : List Ab) (on : List Int) (n : Int) : Prop where
 fits : FitsS t l
 pos : 0 < on.length
 set : okSet n on
theorem AfY {t : Ac} {l : List Ab} {on : List Int} {n : Int} (hm : ∀ x ∈ t.nodes,Abw x) (ht : t.nodes.length ≤ 1000000) (hl : l.length ≤ 1000000) (hs : ∀ x ∈ l,Hj x.settings) (ho : on.length ≤ 9223372036854775807) :
  Ok (Jv t l on n) (fun b => b = true ↔ Usable t l on n) := by
 unfold Jv Js
 have h := Dv (AbA hm ht hl hs) (R := 0 < on.length ∧ okSet n on) (rest := (if (decide (((on.length : Nat) : Int) > 0)) then (Option.bind (Jf on n) fun r4 => some r4) else some false)) fun _ => by
  refine Ok.ite (fun c => ?_) fun c => Ok.ret ?_
  ·have c : 0 < on.length := by have := of_decide_eq_true c; omega
   refine (Vh (Mv on n ho)).mono fun b hb => ?_
   rw [hb]
   simp [c]
  ·have c := of_decide_eq_false c
   simp only [Bool.false_eq_true,false_iff]
   intro ⟨h,_⟩
   omega
 exact h.mono fun b hb => hb.trans ⟨fun ⟨a,b,c⟩ => ⟨a,b,c⟩,fun u => ⟨u.fits,u.pos,u.set⟩⟩
end Go.Dm

/- Plain theory of processor sets, part 3: how a group's share is divided. -/
namespace Go.Dm
set_option linter.unusedVariables false
set_option linter.unusedSimpArgs false
theorem AdH {S R : Type} {B : Int → S → (S → Option R) → Option R} {D : S → Option R} {r : R} (I : (Int → Bool) → S → Prop)
  (step : ∀ rem s n N,rem n = true → I rem s → (∀ s',I (At rem n false) s' → N s' = some r) → B n s N = some r) (fin : ∀ s,I (fun _ => false) s → D s = some r) :
  ∀ (m : Nat) (ks : List Int) (rem : Int → Bool) (s : S),ks.Nodup → ks.length < m → (∀ n,rem n = true ↔ n ∈ ks) → I rem s → rangeM B D m rem s = some r := by
 intro m
 induction m with
 | zero => intro ks rem s _ h; omega
 | succ m ih =>
  intro ks rem s hn hl hr hi
  rw [rangeM]
  by_cases h0 : ∀ n,rem n = false
  ·rw [if_pos h0]
   have : rem = fun _ => false := funext h0
   subst this
   exact fin s hi
  ·rw [if_neg h0]
   have key : ∀ n,rem n = true → B n s (rangeM B D m (At rem n false)) = some r := by
    intro n hrn
    have hnk := (hr n).mp hrn
    refine step rem s n _ hrn hi fun s' hi' => ?_
    refine ih (ks.filter (fun k => k != n)) (At rem n false) s' (hn.sublist List.filter_sublist) ?_ (fun k => ?_) hi'
    ·have : (ks.filter (fun k => k != n)).length < ks.length := by
      apply List.length_filter_lt_length_iff_exists.mpr
      exact ⟨n,hnk,by simp⟩
     omega
    ·simp only [At,List.mem_filter,bne_iff_ne,ne_eq]
     split
     ·rename_i e; subst e; simp
     ·rename_i e; rw [hr k]; simp [e]
   have hex : ∃ r,∀ n,rem n = true → B n s (rangeM B D m (At rem n false)) = some r := ⟨r,key⟩
   rw [dif_pos hex]
   have h1 : ∃ n,rem n = true := by
    by_cases h : ∃ n,rem n = true
    ·exact h
    ·exact absurd (fun n => by
      cases hq : rem n with
      | false => rfl
      | true => exact absurd ⟨n,hq⟩ h) h0
   obtain ⟨n,hn1⟩ := h1
   have := hex.choose_spec n hn1
   rw [key n hn1] at this
   exact this.symm
def Ti (al : Bool) (left : List Int) (s : As) : Bool := s.partition == 1 && al && decide (0 < s.cpus.length) && s.cpus.all (fun x => left.contains x) && decide (s.cpus.length < left.length)
def Cf (l : List Ab) (al : Bool) : List Int → List Int → List Int × List Int
 | [],left => (left,[])
 | c :: r,left => if Ti al left (cfg l c) then ((Cf l al r (Qk left (cfg l c).cpus)).1,c :: (Cf l al r (Qk left (cfg l c).cpus)).2) else Cf l al r left
theorem Wz {l : List Ab} {al : Bool} {x : Int} : ∀ (pre : List Int) (left : List Int),
  Cf l al (pre ++ [x]) left = if Ti al (Cf l al pre left).1 (cfg l x) then (Qk (Cf l al pre left).1 (cfg l x).cpus,(Cf l al pre left).2 ++ [x]) else Cf l al pre left
 | [],left => by
  by_cases h : Ti al left (cfg l x) = true <;> simp [Cf,h]
 | c :: r,left => by
  rw [List.cons_append,Cf,Wz r left,Wz r (Qk left (cfg l c).cpus)]
  rw [Cf]
  by_cases h : Ti al left (cfg l c) = true
  ·rw [if_pos h,if_pos h]
   simp only
   split <;> simp
  ·rw [if_neg h,if_neg h]
theorem Ng {l : List Ab} {al : Bool} : ∀ (ks left : List Int),(∀ x ∈ (Cf l al ks left).1,x ∈ left) ∧ (∀ c ∈ (Cf l al ks left).2,c ∈ ks) ∧ (Asc left → Asc (Cf l al ks left).1)
 | [],left => by simp [Cf]
 | c :: r,left => by
  rw [Cf]
  by_cases h : Ti al left (cfg l c) = true
  ·rw [if_pos h]
   obtain ⟨h1,h2,h3⟩ := Ng r (Qk left (cfg l c).cpus) (l := l) (al := al)
   refine ⟨fun x hx => (List.mem_filter.mp (h1 x hx)).1,fun d hd => ?_,fun ha => h3 (Rz _ ha)⟩
   rcases List.mem_cons.mp hd with rfl | hd
   ·simp
   ·simp [h2 d hd]
  ·rw [if_neg h]
   obtain ⟨h1,h2,h3⟩ := Ng r left (l := l) (al := al)
   exact ⟨h1,fun d hd => by simp [h2 d hd],h3⟩
def Zf (t : Ac) (l : List Ab) (g : Int) (s : List Int) (al : Bool) : List Int := (Cf l al (Ay t g) s).1
def Ku (t : Ac) (l : List Ab) (g : Int) (s : List Int) (al : Bool) : List Int := (Cf l al (Ay t g) s).2
def stC (t : Ac) (l : List Ab) (on : List Int) : List Int → List Int × Bool
 | [] => ([],false)
 | [_] => (on,false)
 | c :: p :: r =>
  if (Ku t l p (stC t l on (p :: r)).1 (p == 1 || (stC t l on (p :: r)).2)).contains c then ((cfg l c).cpus,true)
  else (Kf (cfg l c).cpus (Zf t l p (stC t l on (p :: r)).1 (p == 1 || (stC t l on (p :: r)).2)),false)
def Dn (t : Ac) (l : List Ab) (on : List Int) (g : Int) : List Int := (stC t l on (upT t g)).1
def Ds (t : Ac) (l : List Ab) (on : List Int) (g : Int) : Bool := (stC t l on (upT t g)).2
def Jp (t : Ac) (l : List Ab) (on : List Int) (g : Int) : Bool := g == 1 || Ds t l on g
def Ju (t : Ac) (l : List Ab) (on : List Int) (g : Int) : List Int := Zf t l g (Dn t l on g) (Jp t l on g)
def Hw (t : Ac) (l : List Ab) (on : List Int) (g : Int) : List Int := Ku t l g (Dn t l on g) (Jp t l on g)
def Bo (t : Ac) (g x : Int) : Bool := (upT t x).contains g
variable {t : Ac} {l : List Ab} {on : List Int}
theorem below_iff {g x : Int} : Bo t g x = true ↔ g ∈ upT t x := by simp [Bo]
theorem Uf (w : WfT t) {g c : Int} (hc : c ∈ Ay t g) : upT t c = c :: upT t g ∧ Ft t c = true ∧ g < c := by
 obtain ⟨x,hx,rfl,rfl⟩ := kids_iff.mp hc
 exact ⟨w.up hx,hasN_iff.mpr ⟨x,hx,rfl⟩,w.par_lt hx⟩
theorem root_up (w : WfT t) : upT t 1 = [1] := by
 obtain ⟨x,r,e,hr⟩ := w.root
 have hx : x ∈ t.nodes := by rw [e]; simp
 have := w.up hx
 rw [hr.id,hr.parent,w.upZero] at this
 exact this
theorem Zw (w : WfT t) : Dn t l on 1 = on ∧ Ds t l on 1 = false := by
 unfold Dn Ds
 rw [root_up w]
 exact ⟨rfl,rfl⟩
theorem Abs {g : Int} (w : WfT t) (h : Ft t g = true) : ∃ r,upT t g = g :: r := ⟨_,up_cons w h⟩
theorem Rn (w : WfT t) {g c : Int} (hg : Ft t g = true) (hc : c ∈ Ay t g) :
  Ds t l on c = (Hw t l on g).contains c ∧ Dn t l on c = (if (Hw t l on g).contains c then (cfg l c).cpus else Kf (cfg l c).cpus (Ju t l on g)) := by
 obtain ⟨e1,e2,e3⟩ := Uf w hc
 obtain ⟨r,er⟩ := Abs w hg
 unfold Ds Dn
 rw [e1,er,stC]
 unfold Hw Ju Dn Jp Ds
 rw [er]
 by_cases h : (Ku t l g (stC t l on (g :: r)).1 (g == 1 || (stC t l on (g :: r)).2)).contains c = true
 ·rw [if_pos h,if_pos h,h]
  exact ⟨rfl,rfl⟩
 ·rw [if_neg h,if_neg h]
  simp only [Bool.not_eq_true] at h
  rw [h]
  exact ⟨rfl,rfl⟩
def setsA (t : Ac) (l : List Ab) (on : List Int) (g : Int) (m : IMap (List Int)) : IMap (List Int) := ⟨fun x => Bo t g x || m.has x,fun x => if Bo t g x then Ju t l on x else m.get x⟩
def partA (t : Ac) (l : List Ab) (on : List Int) (g : Int) (m : IMap Bool) : IMap Bool := ⟨fun x => (Bo t g x && x != g && Ds t l on x) || m.has x,fun x => if Bo t g x && x != g && Ds t l on x then true else m.get x⟩
def Gk (m : IMap Bool) (ps : List Int) : IMap Bool := ⟨fun x => ps.contains x || m.has x,fun x => if ps.contains x then true else m.get x⟩
def Ml (l : List Ab) (ps : List Int) : IMap (List Int) := ⟨fun x => ps.contains x,fun x => if ps.contains x then (cfg l x).cpus else []⟩
def Md (l : List Ab) (ps ms : List Int) (left : List Int) : IMap (List Int) := ⟨fun x => ms.contains x || ps.contains x,fun x => if ms.contains x then Kf (cfg l x).cpus left else if ps.contains x then (cfg l x).cpus else []⟩
theorem IMap.ext' {α : Type} {m n : IMap α} (h1 : ∀ x,m.has x = n.has x) (h2 : ∀ x,m.get x = n.get x) : m = n := by
 cases m
 cases n
 congr
 ·funext x; exact h1 x
 ·funext x; exact h2 x
theorem Aey (m : IMap Bool) (ps : List Int) (x : Int) : (Gk m ps).set x true = Gk m (ps ++ [x]) := by
 apply IMap.ext'
 ·intro y
  simp only [IMap.set,Gk,At,List.contains_eq_mem,List.mem_append,List.mem_singleton]
  by_cases h : y = x
  ·simp [h]
  ·simp [h]
 ·intro y
  simp only [IMap.set,Gk,At,List.contains_eq_mem,List.mem_append,List.mem_singleton,decide_eq_true_eq]
  by_cases h : y = x
  ·simp [h]
  ·simp [h]
theorem AfC (ps : List Int) (x : Int) : (Ml l ps).set x (cfg l x).cpus = Ml l (ps ++ [x]) := by
 apply IMap.ext'
 ·intro y
  simp only [IMap.set,Ml,At,List.contains_eq_mem,List.mem_append,List.mem_singleton]
  by_cases h : y = x
  ·simp [h]
  ·simp [h]
 ·intro y
  simp only [IMap.set,Ml,At,List.contains_eq_mem,List.mem_append,List.mem_singleton,decide_eq_true_eq]
  by_cases h : y = x
  ·simp [h]
  ·simp [h]
theorem Aff (ps ms left : List Int) (x : Int) : (Md l ps ms left).set x (Kf (cfg l x).cpus left) = Md l ps (ms ++ [x]) left := by
 apply IMap.ext'
 ·intro y
  simp only [IMap.set,Md,At,List.contains_eq_mem,List.mem_append,List.mem_singleton]
  by_cases h : y = x
  ·simp [h]
  ·simp [h]
 ·intro y
  simp only [IMap.set,Md,At,List.contains_eq_mem,List.mem_append,List.mem_singleton,decide_eq_true_eq]
  by_cases h : y = x
  ·simp [h]
  ·simp [h]
theorem AfT (ps left : List Int) : Ml l ps = Md l ps [] left := by
 apply IMap.ext'
 ·intro y; simp [Ml,Md]
 ·intro y; simp [Ml,Md]
structure UseS (t : Ac) (l : List Ab) (on : List Int) : Prop where
 fits : FitsS t l
 pos : 0 < on.length
 set : okSet 16 on
theorem CheckP.small {s : As} (h : CheckP s) : s.cpus.length ≤ 16 ∧ s.mems.length ≤ 8 ∧ Asc s.cpus ∧ Asc s.mems := by
 obtain ⟨_,_,_,_,_,h1,h2,_,_,_⟩ := h
 have a1 := h1.len (by omega)
 have a2 := h2.len (by omega)
 exact ⟨by omega,by omega,h1.1,h2.1⟩
theorem Adx {P : As → Prop} (h : ∀ x ∈ l,P x.settings) (hd : P dfS) (g : Int) : P (cfg l g) := by
 unfold cfg
 cases hf : l.find? (fun x => x.group == g) with
 | none => exact hd
 | some x => exact h x (List.mem_of_find?_eq_some hf)
theorem FitsS.cfg (f : FitsS t l) (g : Int) : CheckP (cfg l g) := Adx f.chk AcS g
theorem Xc (on16 : okSet 16 on) {L : List Int} (h : ∀ x ∈ L,x ∈ on) (ha : Asc L) : L.length ≤ 16 := by
 have := (show okSet 16 L from ⟨ha,fun x hx => on16.2 x (h x hx)⟩).len (by omega)
 omega
end Go.Dm

/- Plain theory of processor sets, part 4: the plan of the program. -/
namespace Go.Dm
set_option linter.unusedVariables false
set_option linter.unusedSimpArgs false
variable {t : Ac} {l : List Ab} {on : List Int}
theorem cond_iff {al : Bool} {left : List Int} {s : As} : Ti al left s = true ↔ s.partition = 1 ∧ al = true ∧ 0 < s.cpus.length ∧ (∀ y ∈ s.cpus,y ∈ left) ∧ s.cpus.length < left.length := by
 simp [Ti,and_assoc]
theorem Xv {al : Bool} (hc : ∀ c,Asc (cfg l c).cpus) : ∀ (ks left : List Int),Asc left →
  (∀ c ∈ (Cf l al ks left).2,al = true ∧ (cfg l c).partition = 1 ∧ 0 < (cfg l c).cpus.length ∧ ∀ y ∈ (cfg l c).cpus,y ∈ left ∧ y ∉ (Cf l al ks left).1) ∧
  (∀ y ∈ left,y ∈ (Cf l al ks left).1 ∨ ∃ c ∈ (Cf l al ks left).2,y ∈ (cfg l c).cpus) ∧
  (ks.Nodup → ∀ c ∈ (Cf l al ks left).2,∀ d ∈ (Cf l al ks left).2,∀ y,y ∈ (cfg l c).cpus → y ∈ (cfg l d).cpus → c = d) ∧
  (0 < left.length → 0 < (Cf l al ks left).1.length)
 | [],left,ha => by simp [Cf]
 | c :: r,left,ha => by
  rw [Cf]
  by_cases h : Ti al left (cfg l c) = true
  ·rw [if_pos h]
   obtain ⟨c1,c2,c3,c4,c5⟩ := cond_iff.mp h
   have hm : ∀ y,y ∈ Qk left (cfg l c).cpus ↔ y ∈ left ∧ y ∉ (cfg l c).cpus := by
    intro y
    simp [Qk]
   obtain ⟨h1,h2,h3,h4⟩ := Xv (al := al) hc r (Qk left (cfg l c).cpus) (Rz _ ha)
   obtain ⟨s1,s2,s3⟩ := Ng (l := l) (al := al) r (Qk left (cfg l c).cpus)
   refine ⟨fun d hd => ?_,fun y hy => ?_,fun hn d hd e he y hyd hye => ?_,fun hpos => h4 ?_⟩
   ·simp only
    rcases List.mem_cons.mp hd with rfl | hd
    ·exact ⟨c2,c1,c3,fun y hy => ⟨c4 y hy,fun hy2 => ((hm y).mp (s1 y hy2)).2 hy⟩⟩
    ·obtain ⟨g1,g2,g3,g4⟩ := h1 d hd
     exact ⟨g1,g2,g3,fun y hy => ⟨((hm y).mp (g4 y hy).1).1,(g4 y hy).2⟩⟩
   ·simp only
    by_cases hyc : y ∈ (cfg l c).cpus
    ·exact .inr ⟨c,by simp,hyc⟩
    ·rcases h2 y ((hm y).mpr ⟨hy,hyc⟩) with g | ⟨d,hd,g⟩
     ·exact .inl g
     ·exact .inr ⟨d,by simp [hd],g⟩
   ·simp only at hd he
    rw [List.nodup_cons] at hn
    rcases List.mem_cons.mp hd with rfl | hd <;> rcases List.mem_cons.mp he with rfl | he
    ·rfl
    ·exact absurd hyd ((hm y).mp ((h1 e he).2.2.2 y hye).1).2
    ·exact absurd hye ((hm y).mp ((h1 d hd).2.2.2 y hyd).1).2
    ·exact h3 hn.2 d hd e he y hyd hye
   ·apply Nat.pos_of_ne_zero
    intro h0
    have he := List.eq_nil_of_length_eq_zero h0
    have : left.length ≤ (cfg l c).cpus.length := Sy (Ww ha) fun y hy => by
     by_cases hyc : y ∈ (cfg l c).cpus
     ·exact hyc
     ·have := (hm y).mpr ⟨hy,hyc⟩
      rw [he] at this
      simp at this
    omega
  ·rw [if_neg h]
   obtain ⟨h1,h2,h3,h4⟩ := Xv (al := al) hc r left ha
   exact ⟨h1,h2,fun hn => h3 (List.nodup_cons.mp hn).2,h4⟩
theorem UseS.asc (u : UseS t l on) (c : Int) : Asc (cfg l c).cpus := (u.fits.cfg c).small.2.2.1
theorem UseS.w (u : UseS t l on) : WfT t := u.fits.wf
theorem among_mem {A B : List Int} : ∀ y ∈ Kf A B,y ∈ B := by
 intro y hy
 unfold Kf at hy
 split at hy
 ·simp only [Mo,List.mem_filter,List.contains_eq_mem,decide_eq_true_eq] at hy
  exact hy.2
 ·exact hy
theorem among_asc {A B : List Int} (ha : Asc A) (hb : Asc B) : Asc (Kf A B) := by
 unfold Kf
 split
 ·exact Rz _ ha
 ·exact hb
theorem among_pos {A B : List Int} (hb : 0 < B.length) : 0 < (Kf A B).length := by
 unfold Kf
 split
 ·assumption
 ·exact hb
theorem share_ok (u : UseS t l on) : ∀ x ∈ t.nodes,Asc (Dn t l on x.id) ∧ (∀ y ∈ Dn t l on x.id,y ∈ on) ∧ 0 < (Dn t l on x.id).length := by
 refine u.w.induct fun x hx ih => ?_
 rcases u.w.p.par x hx with ⟨h1,_⟩ | ⟨_,_,⟨y,hy,hyp⟩,_⟩
 ·rw [h1,(Zw u.w).1]
  exact ⟨u.set.1,fun y hy => hy,u.pos⟩
 ·obtain ⟨i1,i2,i3⟩ := ih y hy hyp
  rw [hyp] at i1 i2 i3
  have hg : Ft t x.parent = true := hasN_iff.mpr ⟨y,hy,hyp⟩
  have hk : x.id ∈ Ay t x.parent := kids_iff.mpr ⟨x,hx,rfl,rfl⟩
  obtain ⟨e1,e2⟩ := Rn (l := l) (on := on) u.w hg hk
  rw [e2]
  obtain ⟨p1,p2,p3,p4⟩ := Xv (al := Jp t l on x.parent) u.asc (Ay t x.parent) _ i1
  obtain ⟨s1,s2,s3⟩ := Ng (l := l) (al := Jp t l on x.parent) (Ay t x.parent) (Dn t l on x.parent)
  split
  ·rename_i hc
   have hc : x.id ∈ Hw t l on x.parent := by simpa using hc
   obtain ⟨_,_,q3,q4⟩ := p1 _ hc
   exact ⟨u.asc _,fun y hy => i2 y (q4 y hy).1,q3⟩
  ·exact ⟨among_asc (u.asc _) (s3 i1),fun y hy => i2 y (s1 y (among_mem y hy)),among_pos (p4 i3)⟩
theorem AdF (u : UseS t l on) {g : Int} (h : Ft t g = true) : Asc (Dn t l on g) ∧ (∀ y ∈ Dn t l on g,y ∈ on) ∧ 0 < (Dn t l on g).length ∧ (Dn t l on g).length ≤ 16 := by
 obtain ⟨x,hx,rfl⟩ := hasN_iff.mp h
 obtain ⟨h1,h2,h3⟩ := share_ok u x hx
 exact ⟨h1,h2,h3,Xc u.set h2 h1⟩
theorem Abi (u : UseS t l on) {g : Int} (h : Ft t g = true) : Asc (Ju t l on g) ∧ (∀ y ∈ Ju t l on g,y ∈ Dn t l on g) ∧ 0 < (Ju t l on g).length ∧ (Ju t l on g).length ≤ 16 := by
 obtain ⟨h1,h2,h3,_⟩ := AdF u h
 obtain ⟨p1,p2,p3,p4⟩ := Xv (al := Jp t l on g) u.asc (Ay t g) _ h1
 obtain ⟨s1,s2,s3⟩ := Ng (l := l) (al := Jp t l on g) (Ay t g) (Dn t l on g)
 exact ⟨s3 h1,s1,p4 h3,Xc u.set (fun y hy => h2 y (s1 y hy)) (s3 h1)⟩
theorem Aex (u : UseS t l on) (hs : ∀ x ∈ l,Hj x.settings) {g : Int} {al : Bool} {p : plan} (ht : p.tree = t) (hl : p.configs = l) (hg : Ft t g = true) {s : List Int} (ha : Asc s) (h16 : s.length ≤ 16)
  (hal : p.partitions.get g = al) {rec : plan → Int → List Int → Option plan} {Q : plan → Prop}
  (fin : Ok (Hx rec p g (Ml l (Ku t l g s al),(Ay t g).filter (fun c => !(Ku t l g s al).contains c),Gk p.partitions (Ku t l g s al),Zf t l g s al)) Q) :
  Ok (Ip rec p g s) Q := by
 have hlen := u.fits.len
 have hn := u.w.len2
 unfold Ip
 rw [ht,AaV t g (by omega),Option.bind_some]
 have hk := Aaw t g
 refine Ok.guard (by omega) ?_
 refine Ok.range (fun pre s1 => s1 = (Ml l (Cf l al pre s).2,pre.filter (fun c => !(Cf l al pre s).2.contains c),Gk p.partitions (Cf l al pre s).2,(Cf l al pre s).1)) ?_ ?_ ?_
 ·have e0 : Gk p.partitions [] = p.partitions := by apply IMap.ext' <;> intro y <;> simp [Gk]
  simp only [Cf,List.filter_nil,e0]
  rfl
 ·intro pre x post s1 n he hI hn2
  subst hI
  have hxk : x ∈ Ay t g := by rw [he]; simp
  obtain ⟨e1,e2,e3⟩ := Uf u.w hxk
  have hnd : (pre ++ x :: post).Nodup := by rw [← he]; exact AcG u.w g
  have hxpre : x ∉ pre := fun h => by
   rw [List.nodup_append] at hnd
   exact hnd.2.2 x h x (by simp) rfl
  obtain ⟨s1',s2',s3'⟩ := Ng (l := l) (al := al) pre s
  have hgpre : g ∉ (Cf l al pre s).2 := fun h => by
   have hgk : g ∈ Ay t g := by rw [he]; simp [s2' g h]
   have := (Uf u.w hgk).2.2
   omega
  have hlen16 : (Cf l al pre s).1.length ≤ 16 := by
   have := Sy (Ww (s3' ha)) s1'
   omega
  unfold Mi Ek Hv
  rw [hl,Xr (by omega) hs,Option.bind_some]
  have hget : (Gk p.partitions (Cf l al pre s).2).get g = al := by
   simp only [Gk,List.contains_eq_mem,hgpre,decide_false,Bool.false_eq_true,if_false]
   exact hal
  have hcs := (u.fits.cfg x).small
  have hW : Oh (cfg l x).cpus (Cf l al pre s).1 = some ((cfg l x).cpus.all (fun y => (Cf l al pre s).1.contains y)) := Adm (by omega) (by omega)
  have hyes : Ti al (Cf l al pre s).1 (cfg l x) = true → Ok (Option.bind (Ps (Cf l al pre s).1 (cfg l x).cpus) fun r88 => n ((Ml l (Cf l al pre s).2).set x (cfg l x).cpus,pre.filter (fun c => !(Cf l al pre s).2.contains c),(Gk p.partitions (Cf l al pre s).2).set x true,r88)) Q := by
   intro hc
   rw [Aeq (s3' ha) (by omega) (by omega),Option.bind_some,AfC,Aey]
   refine hn2 _ ?_
   rw [Wz,if_pos hc]
   simp only
   congr 1
   congr 1
   rw [List.filter_append]
   have h1 : pre.filter (fun c => !((Cf l al pre s).2 ++ [x]).contains c) = pre.filter (fun c => !(Cf l al pre s).2.contains c) := by
    apply List.filter_congr
    intro c hc2
    have : c ≠ x := fun e => hxpre (e ▸ hc2)
    simp [this]
   rw [h1]
   simp
  have hno : ¬ Ti al (Cf l al pre s).1 (cfg l x) = true → Ok (if (pre.filter (fun c => !(Cf l al pre s).2.contains c)).length + 1 ≤ 1073741824 then n (Ml l (Cf l al pre s).2,pre.filter (fun c => !(Cf l al pre s).2.contains c) ++ [x],Gk p.partitions (Cf l al pre s).2,(Cf l al pre s).1) else none) Q := by
   intro hc
   have hpl : pre.length ≤ (Ay t g).length := by rw [he]; simp
   have := List.length_filter_le (fun c => !(Cf l al pre s).2.contains c) pre
   refine Ok.guard (by omega) (hn2 _ ?_)
   rw [Wz,if_neg hc,List.filter_append]
   have : x ∉ (Cf l al pre s).2 := fun h => hxpre (s2' x h)
   simp [this]
  simp only [hget]
  by_cases c1 : (cfg l x).partition = 1
  ·rw [if_pos (by simpa using c1)]
   cases al with
   | true =>
    rw [if_pos rfl]
    by_cases c3 : 0 < (cfg l x).cpus.length
    ·rw [if_pos (by simpa using c3),hW,Option.bind_some]
     by_cases c4 : (cfg l x).cpus.all (fun y => (Cf l true pre s).1.contains y) = true
     ·rw [if_pos c4]
      by_cases c5 : (cfg l x).cpus.length < (Cf l true pre s).1.length
      ·rw [if_pos (by simpa using c5)]
       exact hyes (cond_iff.mpr ⟨c1,rfl,c3,by simpa using c4,c5⟩)
      ·rw [if_neg (by simpa using c5)]
       exact hno fun h => c5 (cond_iff.mp h).2.2.2.2
     ·rw [if_neg c4,if_neg (by simp)]
      exact hno fun h => c4 (by simpa using (cond_iff.mp h).2.2.2.1)
    ·rw [if_neg (by simpa using c3),if_neg (by simp)]
     exact hno fun h => c3 (cond_iff.mp h).2.2.1
   | false =>
    rw [if_neg (by simp),if_neg (by simp)]
    exact hno fun h => by have := (cond_iff.mp h).2.1; simp at this
  ·rw [if_neg (by simpa using c1),if_neg (by simp)]
   exact hno fun h => c1 (cond_iff.mp h).1
 ·intro s1 hI
  subst hI
  exact fin
theorem Aei (u : UseS t l on) (hs : ∀ x ∈ l,Hj x.settings) {g : Int} {p : plan} (hl : p.configs = l) {ps ms left : List Int} {q : IMap Bool} (h16 : left.length ≤ 16) (hms : ms.length ≤ 64)
  {rec : plan → Int → List Int → Option plan} {Q : plan → Prop} (fin : Ok (Jh rec p g (Ml l ps,ms,q,left) (Md l ps ms left)) Q) : Ok (Hx rec p g (Ml l ps,ms,q,left)) Q := by
 have hlen := u.fits.len
 have hn := u.w.len2
 unfold Hx
 refine Ok.guard (by simp only; omega) ?_
 refine Ok.range (fun pre s1 => s1 = Md l ps pre left) (AfT ps left) ?_ ?_
 ·intro pre x post s1 n he hI hn2
  subst hI
  unfold Ls
  have hcs := (u.fits.cfg x).small
  rw [hl,Xr (by omega) hs,Option.bind_some,among_eq hcs.2.2.1 (by omega) (by simp only; omega),Option.bind_some]
  simp only
  rw [Aff]
  exact hn2 _ rfl
 ·intro s1 hI
  subst hI
  exact fin
theorem Rf (w : WfT t) {g c x : Int} (hg : Ft t g = true) (hc : c ∈ Ay t g) (h : Bo t c x = true) : Bo t g x = true ∧ x ≠ g := by
 rw [below_iff] at h ⊢
 obtain ⟨n,hn,hnx⟩ := Oc h
 subst hnx
 obtain ⟨e1,e2,e3⟩ := Uf w hc
 obtain ⟨r,er⟩ := Abs w hg
 have hcn : g ∈ upT t c := by
  rw [e1,er]
  simp
 refine ⟨up_trans w hcn n hn h,fun e => ?_⟩
 have := up_le w n hn c h
 omega
theorem Ya (w : WfT t) {g x : Int} (hg : Ft t g = true) : Bo t g x = true ↔ x = g ∨ ∃ c ∈ Ay t g,Bo t c x = true := by
 constructor
 ·intro h
  obtain ⟨n,hn,hnx⟩ := Oc (below_iff.mp h)
  subst hnx
  rcases up_child w n hn (below_iff.mp h) with h | ⟨c,hc,h⟩
  ·exact .inl h
  ·exact .inr ⟨c,hc,below_iff.mpr h⟩
 ·rintro (rfl | ⟨c,hc,h⟩)
  ·obtain ⟨r,er⟩ := Abs w hg
   rw [below_iff,er]
   simp
  ·exact (Rf w hg hc h).1
theorem AaF (w : WfT t) {g c d x : Int} (hc : c ∈ Ay t g) (hd : d ∈ Ay t g) (h1 : Bo t c x = true) (h2 : Bo t d x = true) : c = d := by
 obtain ⟨y,hy,hyp,hyc⟩ := kids_iff.mp hc
 obtain ⟨z,hz,hzp,hzd⟩ := kids_iff.mp hd
 obtain ⟨n,hn,hnx⟩ := Oc (below_iff.mp h1)
 subst hnx
 have := up_one w hy hz hyp hzp n hn (by rw [hyc]; exact below_iff.mp h1) (by rw [hzd]; exact below_iff.mp h2)
 rw [← hyc,← hzd,this]
theorem Su (w : WfT t) {g : Int} (hg : Ft t g = true) : Bo t g g = true := by
 obtain ⟨r,er⟩ := Abs w hg
 rw [below_iff,er]
 simp
def Zz (t : Ac) (l : List Ab) (on : List Int) (g : Int) (rem : Int → Bool) (m : IMap (List Int)) : IMap (List Int) :=
 ⟨fun x => (x == g || (Ay t g).any (fun c => !rem c && Bo t c x)) || m.has x,fun x => if x == g || (Ay t g).any (fun c => !rem c && Bo t c x) then Ju t l on x else m.get x⟩
def Sp (t : Ac) (l : List Ab) (on : List Int) (g : Int) (rem : Int → Bool) (m : IMap Bool) : IMap Bool :=
 ⟨fun x => (Ay t g).any (fun c => !rem c && Bo t c x && x != c && Ds t l on x) || m.has x,fun x => if (Ay t g).any (fun c => !rem c && Bo t c x && x != c && Ds t l on x) then true else m.get x⟩
theorem AfS (w : WfT t) {g n : Int} {rem : Int → Bool} (hg : Ft t g = true) (hn : n ∈ Ay t g) (m : IMap (List Int)) :
  setsA t l on n (Zz t l on g rem m) = Zz t l on g (At rem n false) m := by
 have key : ∀ x,(Bo t n x || (x == g || (Ay t g).any (fun c => !rem c && Bo t c x))) = (x == g || (Ay t g).any (fun c => !(At rem n false) c && Bo t c x)) := by
  intro x
  rw [Bool.eq_iff_iff]
  simp only [Bool.or_eq_true,beq_iff_eq,List.any_eq_true,Bool.and_eq_true,Bool.not_eq_true',At]
  constructor
  ·rintro (h | h | ⟨c,hc,h1,h2⟩)
   ·exact .inr ⟨n,hn,by simp,h⟩
   ·exact .inl h
   ·refine .inr ⟨c,hc,?_,h2⟩
    split
    ·rfl
    ·exact h1
  ·rintro (h | ⟨c,hc,h1,h2⟩)
   ·exact .inr (.inl h)
   ·by_cases e : c = n
    ·subst e; exact .inl h2
    ·rw [if_neg e] at h1
     exact .inr (.inr ⟨c,hc,h1,h2⟩)
 apply IMap.ext'
 ·intro x
  show (Bo t n x || ((x == g || (Ay t g).any (fun c => !rem c && Bo t c x)) || m.has x)) = ((x == g || (Ay t g).any (fun c => !(At rem n false) c && Bo t c x)) || m.has x)
  rw [← Bool.or_assoc,key x]
 ·intro x
  show (if Bo t n x = true then Ju t l on x else if (x == g || (Ay t g).any (fun c => !rem c && Bo t c x)) = true then Ju t l on x else m.get x) = (if (x == g || (Ay t g).any (fun c => !(At rem n false) c && Bo t c x)) = true then Ju t l on x else m.get x)
  rw [← key x]
  cases Bo t n x <;> simp
theorem AfL (w : WfT t) {g n : Int} {rem : Int → Bool} (hg : Ft t g = true) (hn : n ∈ Ay t g) (m : IMap Bool) :
  partA t l on n (Sp t l on g rem m) = Sp t l on g (At rem n false) m := by
 have key : ∀ x,((Bo t n x && x != n && Ds t l on x) || (Ay t g).any (fun c => !rem c && Bo t c x && x != c && Ds t l on x)) = (Ay t g).any (fun c => !(At rem n false) c && Bo t c x && x != c && Ds t l on x) := by
  intro x
  rw [Bool.eq_iff_iff]
  simp only [Bool.or_eq_true,List.any_eq_true,Bool.and_eq_true,Bool.not_eq_true',At,bne_iff_ne,ne_eq]
  constructor
  ·rintro (⟨⟨h1,h2⟩,h3⟩ | ⟨c,hc,⟨⟨h1,h2⟩,h3⟩,h4⟩)
   ·exact ⟨n,hn,⟨⟨by simp,h1⟩,h2⟩,h3⟩
   ·refine ⟨c,hc,⟨⟨?_,h2⟩,h3⟩,h4⟩
    split
    ·rfl
    ·exact h1
  ·rintro ⟨c,hc,⟨⟨h1,h2⟩,h3⟩,h4⟩
   by_cases e : c = n
   ·subst e; exact .inl ⟨⟨h2,h3⟩,h4⟩
   ·rw [if_neg e] at h1
    exact .inr ⟨c,hc,⟨⟨h1,h2⟩,h3⟩,h4⟩
 apply IMap.ext'
 ·intro x
  show ((Bo t n x && x != n && Ds t l on x) || ((Ay t g).any (fun c => !rem c && Bo t c x && x != c && Ds t l on x) || m.has x)) = _
  rw [← Bool.or_assoc,key x]
  rfl
 ·intro x
  show (if (Bo t n x && x != n && Ds t l on x) = true then true else if (Ay t g).any (fun c => !rem c && Bo t c x && x != c && Ds t l on x) = true then true else m.get x) = (if (Ay t g).any (fun c => !(At rem n false) c && Bo t c x && x != c && Ds t l on x) = true then true else m.get x)
  rw [← key x]
  cases (Bo t n x && x != n && Ds t l on x) <;> simp
theorem AeG (w : WfT t) {g c : Int} (hg : Ft t g = true) (hc : c ∈ Ay t g) : c ≠ 1 := by
 obtain ⟨e1,e2,e3⟩ := Uf w hc
 obtain ⟨x,hx,rfl⟩ := hasN_iff.mp hg
 have := w.id_pos hx
 omega
theorem divide_t (u : UseS t l on) (hs : ∀ x ∈ l,Hj x.settings) : ∀ (n : Nat) (g : Int) (p : plan),(t.next - g).toNat < n → Ft t g = true → p.tree = t → p.configs = l → p.partitions.get g = Jp t l on g →
  (∀ x,Bo t g x = true → x ≠ g → p.partitions.get x = false) →
  Fx n p g (Dn t l on g) = some { tree := t,configs := l,sets := setsA t l on g p.sets,partitions := partA t l on g p.partitions } := by
 intro n
 have w := u.w
 induction n with
 | zero => intro g p h; omega
 | succ n ih =>
  intro g p hlt hg ht hl hal hbl
  have hgn : g < t.next := by
   obtain ⟨x,hx,rfl⟩ := hasN_iff.mp hg
   exact w.next x hx
  obtain ⟨q1,q2,q3,q4⟩ := AdF u hg
  obtain ⟨o1,o2,o3,o4⟩ := Abi u hg
  have hkl := Aaw t g
  have hnl := w.len2
  rw [Fx]
  apply Ok.eq
  refine Aex u hs ht hl hg q1 q4 hal ?_
  have hmsl := List.length_filter_le (fun c => !(Ku t l g (Dn t l on g) (Jp t l on g)).contains c) (Ay t g)
  have o4' : (Zf t l g (Dn t l on g) (Jp t l on g)).length ≤ 16 := o4
  refine Aei u hs hl o4' (by omega) ?_
  unfold Jh
  have hgiven : Md l (Ku t l g (Dn t l on g) (Jp t l on g)) ((Ay t g).filter (fun c => !(Ku t l g (Dn t l on g) (Jp t l on g)).contains c)) (Zf t l g (Dn t l on g) (Jp t l on g)) =
    ⟨fun c => (Ay t g).contains c,fun c => if (Ay t g).contains c then Dn t l on c else []⟩ := by
   obtain ⟨s1,s2,s3⟩ := Ng (l := l) (al := Jp t l on g) (Ay t g) (Dn t l on g)
   have hpk : ∀ c,c ∈ Ku t l g (Dn t l on g) (Jp t l on g) → c ∈ Ay t g := s2
   apply IMap.ext'
   ·intro c
    simp only [Md,List.contains_eq_mem,List.mem_filter]
    rw [Bool.eq_iff_iff]
    simp only [Bool.or_eq_true,decide_eq_true_eq,Bool.not_eq_true',decide_eq_false_iff_not]
    constructor
    ·rintro (h | h)
     ·exact h.1
     ·exact hpk c h
    ·intro h
     by_cases hp : c ∈ Ku t l g (Dn t l on g) (Jp t l on g)
     ·exact .inr hp
     ·exact .inl ⟨h,hp⟩
   ·intro c
    by_cases hck : c ∈ Ay t g
    ·have hsk := (Rn (l := l) (on := on) w hg hck).2
     simp only [Md,List.contains_eq_mem,List.mem_filter,hck,true_and,decide_true,if_true,hsk]
     by_cases hp : c ∈ Ku t l g (Dn t l on g) (Jp t l on g)
     ·simp [hp,Hw]
     ·simp [hp,Hw,Ju]
    ·have hnp : c ∉ Ku t l g (Dn t l on g) (Jp t l on g) := fun h => hck (hpk c h)
     simp [Md,hck,hnp]
  rw [hgiven]
  have hset : p.sets.set g (Zf t l g (Dn t l on g) (Jp t l on g)) = Zz t l on g (fun c => (Ay t g).contains c) p.sets := by
   apply IMap.ext'
   ·intro x
    simp only [IMap.set,At,Zz]
    by_cases e : x = g
    ·simp [e]
    ·have : (Ay t g).any (fun c => !(Ay t g).contains c && Bo t c x) = false := by
      rw [List.any_eq_false]
      intro c hc
      simp [hc]
     rw [if_neg e,this]
     simp [e]
   ·intro x
    simp only [IMap.set,At,Zz]
    have : (Ay t g).any (fun c => !(Ay t g).contains c && Bo t c x) = false := by
     rw [List.any_eq_false]
     intro c hc
     simp [hc]
    rw [this]
    by_cases e : x = g
    ·subst e; simp [Ju]
    ·simp [e]
  have hpart : Gk p.partitions (Ku t l g (Dn t l on g) (Jp t l on g)) = Sp t l on g (fun c => (Ay t g).contains c) (Gk p.partitions (Hw t l on g)) := by
   have hz : ∀ x,(Ay t g).any (fun c => !(Ay t g).contains c && Bo t c x && x != c && Ds t l on x) = false := by
    intro x
    rw [List.any_eq_false]
    intro c hc
    simp [hc]
   apply IMap.ext'
   ·intro x
    simp only [Sp,hz x,Bool.false_or]
    rfl
   ·intro x
    simp only [Sp,hz x]
    rfl
  refine Ok.of_eq (b := { tree := t,configs := l,sets := setsA t l on g p.sets,partitions := partA t l on g p.partitions }) ?_ rfl
  refine AdH (fun rem s => (∀ c,rem c = true → c ∈ Ay t g) ∧ s = (t.nodes,t.next,l,Zz t l on g rem p.sets,Sp t l on g rem (Gk p.partitions (Hw t l on g)))) ?_ ?_ Fm (Ay t g) _ _ (AcG w g) (by rw [Ev]; omega) (by simp) ⟨by simp,?_⟩
  ·rintro rem s c N hrc ⟨hrk,rfl⟩ hN
   have hck := hrk c hrc
   obtain ⟨e1,e2,e3⟩ := Uf w hck
   unfold Lo
   simp only [List.contains_eq_mem,hck,decide_true,if_true]
   have hpget : (Sp t l on g rem (Gk p.partitions (Hw t l on g))).get c = Jp t l on c := by
    have hz : (Ay t g).any (fun d => !rem d && Bo t d c && c != d && Ds t l on c) = false := by
     rw [List.any_eq_false]
     intro d hd
     simp only [Bool.and_eq_true,bne_iff_ne,ne_eq,not_and,Bool.not_eq_true]
     intro ⟨⟨_,h1⟩,h2⟩
     exact absurd (AaF w hck hd (Su w e2) h1) h2
    have h1 : Jp t l on c = (Hw t l on g).contains c := by
     have := AeG w hg hck
     rw [← (Rn (l := l) (on := on) w hg hck).1]
     simp [Jp,this]
    simp only [Sp,hz,Bool.false_eq_true,if_false,Gk,h1]
    rw [hbl c (Rf w hg hck (Su w e2)).1 (Rf w hg hck (Su w e2)).2]
    cases (Hw t l on g).contains c <;> rfl
   have hpbl : ∀ x,Bo t c x = true → x ≠ c → (Sp t l on g rem (Gk p.partitions (Hw t l on g))).get x = false := by
    intro x hx hxc
    have hz : (Ay t g).any (fun d => !rem d && Bo t d x && x != d && Ds t l on x) = false := by
     rw [List.any_eq_false]
     intro d hd
     simp only [Bool.and_eq_true,bne_iff_ne,ne_eq,not_and,Bool.not_eq_true,Bool.not_eq_true']
     intro ⟨⟨h0,h1⟩,_⟩
     have := AaF w hck hd hx h1
     subst this
     rw [hrc] at h0
     simp at h0
    have hnp : x ∉ Hw t l on g := by
     intro hxp
     have hxk : x ∈ Ay t g := (Ng (l := l) (al := Jp t l on g) (Ay t g) (Dn t l on g)).2.1 x hxp
     exact hxc (AaF w hck hxk hx (Su w (Uf w hxk).2.1)).symm
    obtain ⟨b1,b2⟩ := Rf w hg hck hx
    simp only [Sp,hz,Bool.false_eq_true,if_false,Gk,List.contains_eq_mem,hnp,decide_false]
    exact hbl x b1 b2
   have := ih c { tree := t,configs := l,sets := Zz t l on g rem p.sets,partitions := Sp t l on g rem (Gk p.partitions (Hw t l on g)) } (by omega) e2 rfl rfl hpget hpbl
   rw [this,Option.bind_some]
   simp only
   rw [AfS w hg hck,AfL w hg hck]
   refine hN _ ⟨fun d hd => ?_,rfl⟩
   simp only [At] at hd
   split at hd
   ·simp at hd
   ·exact hrk d hd
  ·rintro s ⟨_,rfl⟩
   unfold Lq
   simp only
   congr 1
   congr 1
   ·apply IMap.ext'
    ·intro x
     show ((x == g || (Ay t g).any (fun c => !false && Bo t c x)) || p.sets.has x) = (Bo t g x || p.sets.has x)
     congr 1
     rw [Bool.eq_iff_iff,Ya w hg]
     simp
    ·intro x
     show (if (x == g || (Ay t g).any (fun c => !false && Bo t c x)) = true then _ else _) = (if Bo t g x = true then _ else _)
     have : (x == g || (Ay t g).any (fun c => !false && Bo t c x)) = Bo t g x := by
      rw [Bool.eq_iff_iff,Ya w hg]
      simp
     rw [this]
   ·have key : ∀ x,((Ay t g).any (fun c => !false && Bo t c x && x != c && Ds t l on x) || (Hw t l on g).contains x) = (Bo t g x && x != g && Ds t l on x) := by
     intro x
     rw [Bool.eq_iff_iff]
     simp only [Bool.or_eq_true,List.any_eq_true,Bool.and_eq_true,bne_iff_ne,ne_eq,Bool.not_false,true_and]
     constructor
     ·rintro (⟨c,hc,⟨h1,h2⟩,h3⟩ | h)
      ·obtain ⟨b1,b2⟩ := Rf w hg hc h1
       exact ⟨⟨b1,b2⟩,h3⟩
      ·have hxp : x ∈ Hw t l on g := by simpa using h
       have hxk : x ∈ Ay t g := (Ng (l := l) (al := Jp t l on g) (Ay t g) (Dn t l on g)).2.1 x hxp
       obtain ⟨b1,b2⟩ := Rf w hg hxk (Su w (Uf w hxk).2.1)
       exact ⟨⟨b1,b2⟩,by rw [(Rn (l := l) (on := on) w hg hxk).1]; exact h⟩
     ·rintro ⟨⟨h1,h2⟩,h3⟩
      rcases (Ya w hg).mp h1 with h | ⟨c,hc,h⟩
      ·exact absurd h h2
      ·by_cases e : x = c
       ·subst e
        right
        rw [(Rn (l := l) (on := on) w hg hc).1] at h3
        exact h3
       ·exact .inl ⟨c,hc,⟨h,e⟩,h3⟩
    apply IMap.ext'
    ·intro x
     show ((Ay t g).any (fun c => !false && Bo t c x && x != c && Ds t l on x) || ((Hw t l on g).contains x || p.partitions.has x)) = ((Bo t g x && x != g && Ds t l on x) || p.partitions.has x)
     rw [← Bool.or_assoc,key x]
    ·intro x
     show (if (Ay t g).any (fun c => !false && Bo t c x && x != c && Ds t l on x) = true then true else if (Hw t l on g).contains x = true then true else p.partitions.get x) = (if (Bo t g x && x != g && Ds t l on x) = true then true else p.partitions.get x)
     rw [← key x]
     cases (Ay t g).any (fun c => !false && Bo t c x && x != c && Ds t l on x) <;> simp
  ·rw [ht,hl,hset,hpart]
end Go.Dm

/- Plain theory of processor sets, part 5: what the program answers. -/
namespace Go.Dm
set_option linter.unusedVariables false
set_option linter.unusedSimpArgs false
variable {t : Ac} {l : List Ab} {on : List Int}
theorem AcT (w : WfT t) (x : Int) : Bo t 1 x = Ft t x := by
 rw [Bool.eq_iff_iff,below_iff]
 constructor
 ·intro h
  obtain ⟨n,hn,rfl⟩ := Oc h
  exact hasN_iff.mpr ⟨n,hn,rfl⟩
 ·intro h
  obtain ⟨n,hn,rfl⟩ := hasN_iff.mp h
  refine w.induct (P := fun n => (1 : Int) ∈ upT t n.id) (fun n hn ih => ?_) n hn
  rcases w.p.par n hn with ⟨h1,_⟩ | ⟨_,_,⟨y,hy,hyp⟩,_⟩
  ·rw [h1,root_up w]
   simp
  ·have := ih y hy hyp
   rw [hyp] at this
   rw [w.up hn]
   simp [this]
def Ka (t : Ac) (l : List Ab) (on : List Int) : List Int := (t.nodes.map (·.id)).filter (fun x => x != 1 && Ds t l on x)
theorem Zt (w : WfT t) : Asc (Ka t l on) := by
 refine Rz _ ?_
 rw [Asc,List.pairwise_map]
 exact w.sorted
theorem aloneL_mem {x : Int} : x ∈ Ka t l on ↔ Ft t x = true ∧ x ≠ 1 ∧ Ds t l on x = true := by
 unfold Ka
 rw [List.mem_filter,hasN_iff]
 simp
theorem AcB : (Ka t l on).length ≤ t.nodes.length := by
 unfold Ka
 have := List.length_filter_le (fun x => x != 1 && Ds t l on x) (t.nodes.map (·.id))
 simpa using this
theorem of_t (u : UseS t l on) (hs : ∀ x ∈ l,Hj x.settings) :
  ∃ p,Rl t l on = some p ∧ (∀ x,p.sets.get x = if Ft t x then Ju t l on x else []) ∧ ∀ x,p.partitions.has x = true ↔ x ∈ Ka t l on := by
 have w := u.w
 have h16 := Xc u.set (fun x h => h) u.set.1
 have hroot := Zw (l := l) (on := on) w
 have hnx := w.nextLe
 have e := divide_t u hs Fm 1 { tree := t,configs := l,sets := IMap.empty ([] : List Int),partitions := (IMap.empty false).set 1 true } (by rw [Ev]; omega) (has_root w) rfl rfl (by simp [IMap.set,At,Jp]) (fun x hx hx1 => by simp [IMap.set,At,hx1,IMap.empty])
 rw [hroot.1] at e
 unfold Rl Oo
 rw [Rk (by omega),Option.bind_some,e,Option.bind_some]
 refine ⟨_,rfl,fun x => ?_,fun x => ?_⟩
 ·simp only [setsA,IMap.empty,AcT w]
 ·simp only [IMap.del,partA,IMap.set,IMap.empty,At,AcT w,aloneL_mem]
  by_cases h1 : x = 1
  ·simp [h1]
  ·simp [h1,and_assoc]
theorem UseS.iff : Usable t l on 16 ↔ UseS t l on := ⟨fun u => ⟨u.fits,u.pos,u.set⟩,fun u => ⟨u.fits,u.pos,u.set⟩⟩
theorem Afc (u : UseS t l on) (hs : ∀ x ∈ l,Hj x.settings) : Jv t l on 16 = some true := by
 have h16 := Xc u.set (fun x h => h) u.set.1
 have hl := u.fits.len
 have hn := u.w.len2
 obtain ⟨b,h1,h2⟩ := AfY (t := t) (l := l) (on := on) (n := 16) u.w.p.names (by omega) (by omega) hs (by omega)
 rw [h1,h2.mpr (UseS.iff.mpr u)]
theorem AcR (u : UseS t l on) (hs : ∀ x ∈ l,Hj x.settings) (g : Int) : El t l on g = some (if Ft t g then Ju t l on g else []) := by
 obtain ⟨p,h1,h2,_⟩ := of_t u hs
 unfold El
 rw [Afc u hs,Option.bind_some,if_neg (by simp),h1,Option.bind_some,h2 g]
 have hlen : (if Ft t g then Ju t l on g else []).length ≤ 16 := by
  split
  ·rename_i h; exact (Abi u h).2.2.2
  ·simp
 rw [Rk (by omega),Option.bind_some]
theorem sort_to {L K : List Int} (hn : L.Nodup) (hm : ∀ x,x ∈ L ↔ x ∈ K) (hk : Asc K) (hl : L.length ≤ 1000) : He L = some K := by
 obtain ⟨M,h1,h2,h3⟩ := Sort_ok L hl
 have hnd : M.Nodup := h2.nodup_iff.mpr hn
 have ha : Asc M := by
  have := List.pairwise_and_iff.mpr ⟨h3,hnd⟩
  exact this.imp fun ⟨a,b⟩ => by omega
 rw [h1,Abu ha hk fun x => h2.mem_iff.trans (hm x)]
theorem AaN (u : UseS t l on) (hs : ∀ x ∈ l,Hj x.settings) : Ir t l on = some (Ka t l on) := by
 obtain ⟨p,h1,_,h3⟩ := of_t u hs
 have w := u.w
 have hn := w.len2
 have hal := AcB (t := t) (l := l) (on := on)
 unfold Ir
 rw [Afc u hs,Option.bind_some,if_neg (by simp),h1,Option.bind_some]
 refine AdH (fun rem s => s.Nodup ∧ (∀ x,rem x = true → x ∈ Ka t l on) ∧ ∀ x,x ∈ s ↔ x ∈ Ka t l on ∧ rem x = false) ?_ ?_ Fm (Ka t l on) _ _ (Ww (Zt w)) (by rw [Ev]; omega) (fun n => h3 n) ⟨List.nodup_nil,fun x hx => (h3 x).mp hx,fun x => ?_⟩
 ·rintro rem s n N hr ⟨i1,i2,i3⟩ hN
  unfold On
  have hsl : s.length ≤ (Ka t l on).length := Sy i1 fun x hx => ((i3 x).mp hx).1
  rw [if_pos (by omega)]
  have hns : n ∉ s := fun h => by
   have := ((i3 n).mp h).2
   rw [hr] at this
   simp at this
  refine hN _ ⟨?_,fun x hx => ?_,fun x => ?_⟩
  ·rw [List.nodup_append]
   exact ⟨i1,by simp,fun a ha b hb => by simp at hb; subst hb; exact fun e => hns (e ▸ ha)⟩
  ·simp only [At] at hx
   split at hx
   ·simp at hx
   ·exact i2 x hx
  ·rw [List.mem_append,List.mem_singleton,i3 x]
   simp only [At]
   by_cases e : x = n
   ·subst e
    simp [i2 x hr]
   ·simp [e]
 ·rintro s ⟨i1,_,i3⟩
  unfold Ot
  have hsl : s.length ≤ (Ka t l on).length := Sy i1 fun x hx => ((i3 x).mp hx).1
  have hm : ∀ x,x ∈ s ↔ x ∈ Ka t l on := fun x => by rw [i3 x]; simp
  rw [sort_to i1 hm (Zt w) (by omega),Option.bind_some,if_pos]
  have h2 : (Ka t l on).length ≤ s.length := Sy (Ww (Zt w)) fun x hx => (hm x).mpr hx
  omega
 ·simp only [List.not_mem_nil,false_iff,not_and,Bool.not_eq_false]
  exact fun h => (h3 x).mpr h
theorem Afz (u : UseS t l on) (hs : ∀ x ∈ l,Hj x.settings) (g : Int) : Hp t l on g = some ((Ka t l on).contains g) := by
 have hn := u.w.len2
 have hal := AcB (t := t) (l := l) (on := on)
 unfold Hp
 rw [AaN u hs,Option.bind_some,Aah _ _ (by omega),Option.bind_some]
theorem Set_ok {d : Aw} (hd : Hb d) {n : Int} (n0 : 0 ≤ n) (n1 : n ≤ 1000) : Ok (Is d n) (fun r => okSet n r.1 ∧ Hb r.2) := by
 unfold Is
 refine Ok.guard (by omega) ?_
 have e : Int.toNat (n - 0) = n.toNat := by simp
 rw [e]
 refine Ok.for (fun j s => Hb s.1 ∧ Asc s.2 ∧ ∀ x ∈ s.2,0 ≤ x ∧ x < (j : Int)) ⟨hd,List.Pairwise.nil,fun x hx => by simp at hx⟩ ?_ ?_
 ·rintro j ⟨d,L⟩ m hj ⟨hd,ha,hb⟩ hm
  unfold Ov Ic
  simp only at hd ha hb
  have hlen := Adn ha hb
  refine Ok.bind (Adf hd 3 (by omega)) fun r hd => ?_
  refine Ok.ite (fun _ => Ok.guard (by simp only; omega) (hm _ ⟨hd,?_,?_⟩)) fun _ => hm _ ⟨hd,ha,fun x hx => ⟨(hb x hx).1,by have := (hb x hx).2; omega⟩⟩
  ·exact Acd ha fun y hy => by have := (hb y hy).2; omega
  ·intro x hx
   rcases List.mem_append.mp hx with h | h
   ·exact ⟨(hb x h).1,by have := (hb x h).2; omega⟩
   ·simp only [List.mem_singleton] at h
    subst h
    omega
 ·rintro ⟨d,L⟩ ⟨hd,ha,hb⟩
  unfold Ox
  exact Ok.ret ⟨⟨ha,fun x hx => ⟨(hb x hx).1,by have := (hb x hx).2; omega⟩⟩,hd⟩
theorem Online_ok {d : Aw} (hd : Hb d) {n : Int} (n0 : 1 ≤ n) (n1 : n ≤ 1000) : Ok (Kt d n) (fun r => okSet n r.1 ∧ 0 < r.1.length ∧ Hb r.2) := by
 unfold Kt
 refine Ok.bind (Set_ok hd (by omega) n1) fun r ⟨hs,hd⟩ => ?_
 refine Ok.ite (fun c => Ok.ret ⟨hs,by have := of_decide_eq_true c; simp only; omega,hd⟩) fun _ => Ok.guard (by omega) ?_
 have e : Int.toNat (n - 0) = n.toNat := by simp
 rw [e]
 refine Ok.for (fun j s => s.length = j ∧ Asc s ∧ ∀ x ∈ s,0 ≤ x ∧ x < (j : Int)) ⟨rfl,List.Pairwise.nil,fun x hx => by simp at hx⟩ ?_ ?_
 ·rintro j L m hj ⟨hl,ha,hb⟩ hm
  unfold Ph
  refine Ok.guard (by omega) (hm _ ⟨by simp [hl],?_,?_⟩)
  ·exact Acd ha fun y hy => by have := (hb y hy).2; omega
  ·intro x hx
   rcases List.mem_append.mp hx with h | h
   ·exact ⟨(hb x h).1,by have := (hb x h).2; omega⟩
   ·simp only [List.mem_singleton] at h
    subst h
    omega
 ·rintro L ⟨hl,ha,hb⟩
  unfold Pn
  exact Ok.ret ⟨⟨ha,fun x hx => ⟨(hb x hx).1,by have := (hb x hx).2; omega⟩⟩,by simp only; omega,hd⟩
def Uo (t : Ac) : List Ab := t.nodes.map (fun x => { group := x.id,settings := dfS })
theorem AbX (w : WfT t) : Ro t = some (Uo t) := by
 have hn := w.len2
 unfold Ro Sd
 rw [Rw w,Option.bind_some,if_neg (by simp),if_pos (by omega)]
 have e : ∀ x : Int,My [] x = some dfS := fun x => AeI (by simp) (by simp) x
 rw [Nw (p := fun _ => true) (f := fun x : Ai => ({ group := x.id,settings := dfS } : Ab)) (r := Pt) (fun k x s n hs => by
  unfold Tc
  rw [e,Option.bind_some,if_pos hs,if_pos rfl]) (fun _ => rfl) (by simp; omega)]
 unfold Pt
 have e2 : t.nodes.filter (fun _ => true) = t.nodes := List.filter_eq_self.mpr (fun _ _ => rfl)
 rw [e2]
 rfl
theorem AdY (w : WfT t) : FitsS t (Uo t) := ⟨w,by simp [Uo],fun x hx => by
 obtain ⟨y,_,rfl⟩ := List.mem_map.mp hx
 exact AcS⟩
theorem AcM : ∀ x ∈ Uo t,Hj x.settings := fun x hx => by
 obtain ⟨y,_,rfl⟩ := List.mem_map.mp hx
 exact Aas
theorem grp_at (f : FitsS t l) {i : Nat} (hi : i < t.nodes.length) : (l.getD i default).group = (t.nodes.getD i default).id := by
 have hlen := f.len
 have := congrArg (fun q => q[i]?) f.grp
 simp only [List.getElem?_map] at this
 rw [List.getElem?_eq_getElem (by omega),List.getElem?_eq_getElem hi] at this
 simp only [Option.map_some,Option.some.injEq] at this
 rw [Dy (by omega),Dy hi,this]
theorem cfg_at (f : FitsS t l) {i : Nat} (hi : i < t.nodes.length) : cfg l (t.nodes.getD i default).id = (l.getD i default).settings := by
 have hlen := f.len
 have hg := grp_at f hi
 unfold cfg
 have hf : l.find? (fun x => x.group == (t.nodes.getD i default).id) = some (l.getD i default) := by
  rw [List.find?_eq_some_iff_getElem]
  refine ⟨by simpa using hg,i,by omega,by rw [Dy (by omega)],fun j hj => ?_⟩
  simp only [Bool.not_eq_true',beq_eq_false_iff_ne,ne_eq]
  intro e
  have h1 := grp_at f (i := j) (by omega)
  rw [Dy (by omega)] at h1
  rw [h1,Dy (by omega),Dy hi] at e
  have := List.pairwise_iff_getElem.mp f.wf.sorted j i (by omega) hi hj
  omega
 rw [hf]
 rfl
end Go.Dm

/- Plain theory of processor sets, part 6: the example; who shares what with whom. -/
namespace Go.Dm
set_option linter.unusedVariables false
set_option linter.unusedSimpArgs false
variable {t : Ac} {l : List Ab} {on : List Int}
def exT : Ac := { nodes := [{ id := 1,parent := 0,name := ByteArray.empty,control := 0,kind := 0,owner := 0 },{ id := 2,parent := 1,name := bs [97],control := 0,kind := 0,owner := 0 },{ id := 3,parent := 1,name := bs [98],control := 0,kind := 0,owner := 0 }],next := 4 }
def exS : As := { pidsMax := 4611686018427387904,weight := 100,quota := 4611686018427387904,period := 100000,burst := 0,clampMin := 0,clampMax := 10000,cpus := [2,3],mems := [],partition := 1,memory := { min := 0,low := 0,high := 4611686018427387904,max := 4611686018427387904,swapMax := 4611686018427387904,together := false },devices := [] }
def exL : List Ab := [{ group := 1,settings := dfS },{ group := 2,settings := exS },{ group := 3,settings := dfS }]
theorem exS_ok : CheckP exS := by
 have e1 : Fp exS.memory = some true := by kernel_rfl
 have e2 : Fe exS.devices = some true := by kernel_rfl
 refine ⟨.inl rfl,⟨by simp [exS],by simp [exS]⟩,?_,by simp [exS],by simp [exS],⟨by simp [exS,Asc],fun x hx => ?_⟩,⟨List.Pairwise.nil,fun x hx => by simp [exS] at hx⟩,by simp [exS],e1,e2⟩
 ·unfold BandP
  simp [exS]
 ·simp only [exS,List.mem_cons,List.not_mem_nil,or_false] at hx
  omega
theorem exS_small : Hj exS := ⟨by simp [exS],by simp [exS],by simp [exS]⟩
theorem ex_use (w : WfT exT) : UseS exT exL [0,1,2,3] := by
 refine ⟨⟨w,rfl,fun x hx => ?_⟩,by simp,⟨by simp [Asc],fun x hx => ?_⟩⟩
 ·simp only [exL,List.mem_cons,List.not_mem_nil,or_false] at hx
  rcases hx with rfl | rfl | rfl
  ·exact AcS
  ·exact exS_ok
  ·exact AcS
 ·simp only [List.mem_cons,List.not_mem_nil,or_false] at hx
  omega
theorem Afe : ∀ x ∈ exL,Hj x.settings := by
 intro x hx
 simp only [exL,List.mem_cons,List.not_mem_nil,or_false] at hx
 rcases hx with rfl | rfl | rfl
 ·exact Aas
 ·exact exS_small
 ·exact Aas
theorem AeB : Nc = some true := by
 have k1 : Nj newT 1 (bs [97]) = some ({ nodes := [{ id := 1,parent := 0,name := ByteArray.empty,control := 0,kind := 0,owner := 0 },{ id := 2,parent := 1,name := bs [97],control := 0,kind := 0,owner := 0 }],next := 3 },2,0) := by kernel_rfl
 have k2 : Nj { nodes := [{ id := 1,parent := 0,name := ByteArray.empty,control := 0,kind := 0,owner := 0 },{ id := 2,parent := 1,name := bs [97],control := 0,kind := 0,owner := 0 }],next := 3 } 1 (bs [98]) = some (exT,3,0) := by kernel_rfl
 have w1 := AdC Adg (p := 1) (s := bs [97]) (r := ({ nodes := [{ id := 1,parent := 0,name := ByteArray.empty,control := 0,kind := 0,owner := 0 },{ id := 2,parent := 1,name := bs [97],control := 0,kind := 0,owner := 0 }],next := 3 },2,0)) (by
  have := Zd Adg 1 (bs [97])
  rw [k1] at this
  exact (Option.some.inj this).symm) rfl
 have w : WfT exT := AdC w1 (p := 1) (s := bs [98]) (r := (exT,3,0)) (by
  have := Zd w1 1 (bs [98])
  simp only at this
  rw [k2] at this
  exact (Option.some.inj this).symm) rfl
 have u := ex_use w
 have hc := AcR u Afe
 have he := Afz u Afe
 have c2 : El exT exL [0,1,2,3] 2 = some [2,3] := by rw [hc]; kernel_rfl
 have c3 : El exT exL [0,1,2,3] 3 = some [0,1] := by rw [hc]; kernel_rfl
 have c1 : El exT exL [0,1,2,3] 1 = some [0,1] := by rw [hc]; kernel_rfl
 have e2 : Hp exT exL [0,1,2,3] 2 = some true := by rw [he]; kernel_rfl
 have s1 : Hf [2,3] [2,3] = some true := by kernel_rfl
 have s2 : Hf [0,1] [0,1] = some true := by kernel_rfl
 unfold Nc Kz
 rw [AbS,Option.bind_some,k1,Option.bind_some]
 simp only
 rw [k2,Option.bind_some]
 simp only
 rw [AbX w,Option.bind_some]
 have hl : (Uo exT).length = 3 := rfl
 rw [if_pos (by omega),if_pos (by omega),Option.bind_some,if_pos (by omega),if_pos (by omega),Option.bind_some]
 have hset : ∀ x,x = exL → (Option.bind (El exT x [0,1,2,3] 2) fun r14 => (Option.bind (Hf r14 [2,3]) fun r15 => (if r15 then (Option.bind (El exT x [0,1,2,3] 3) fun r17 => (Option.bind (Hf r17 [0,1]) fun r18 => (if r18 then (Option.bind (El exT x [0,1,2,3] 1) fun r20 => (Option.bind (Hf r20 [0,1]) fun r21 => (if r21 then (Option.bind (Hp exT x [0,1,2,3] 2) fun r23 => some r23) else some false))) else some false))) else some false))) = some true := by
  rintro x rfl
  rw [c2,Option.bind_some,s1,Option.bind_some,if_pos rfl,c3,Option.bind_some,s2,Option.bind_some,if_pos rfl,c1,Option.bind_some,s2,Option.bind_some,if_pos rfl,e2,Option.bind_some]
 exact hset _ rfl
theorem AcO {a b : Int} {L : List Int} (h : okSet a L) (hab : a ≤ b) : okSet b L := ⟨h.1,fun x hx => ⟨(h.2 x hx).1,by have := (h.2 x hx).2; omega⟩⟩
end Go.Dm

/- Plain theory of processor sets, part 7: who shares what with whom. -/
namespace Go.Dm
set_option linter.unusedVariables false
set_option linter.unusedSimpArgs false
variable {t : Ac} {l : List Ab} {on : List Int}
theorem Aby {A B : List Int} (h : Asc A) (ha : A.length ≤ 1000) (hb : B.length ≤ 9223372036854775807) : Ms A B = some (Mo A B) := by
 unfold Ms
 rw [if_pos (by omega),Nw (p := fun x : Int => B.contains x) (f := fun x => x) (r := Nb) (fun k x s n hs => by
  unfold Re Kv
  rw [Aem _ _ hb,Option.bind_some,if_pos hs]) (fun _ => rfl) (by simp; omega)]
 unfold Nb
 have hm : (A.filter (fun x => B.contains x)).map (fun x => x) = Mo A B := by simp [Mo]
 have hl := List.length_filter_le (fun x => B.contains x) A
 rw [hm,List.nil_append,Adb (l := Mo A B) (by unfold Mo; omega) (Rz _ h),Option.bind_some]
end Go.Dm

/- The law CpusetPlain, on the model. -/
namespace Go.Dm
set_option linter.unusedVariables false
set_option linter.unusedSimpArgs false
variable {t : Ac} {l : List Ab} {on : List Int}
theorem Zg {al : Bool} (h : ∀ c,(cfg l c).partition ≠ 1) : ∀ (ks left : List Int),Cf l al ks left = (left,[])
 | [],left => rfl
 | c :: r,left => by
  rw [Cf,if_neg (fun hc => h c (cond_iff.mp hc).1)]
  exact Zg h r left
theorem AdD (h : ∀ c,(cfg l c).partition ≠ 1) (g : Int) : Ju t l on g = Dn t l on g := by
 unfold Ju Zf
 rw [Zg h]
theorem Aat (w : WfT t) (h : ∀ c,(cfg l c).partition ≠ 1) {g c : Int} (hg : Ft t g = true) (hc : c ∈ Ay t g) : Ju t l on c = Kf (cfg l c).cpus (Ju t l on g) ∧ Ds t l on c = false := by
 obtain ⟨e1,e2⟩ := Rn (l := l) (on := on) w hg hc
 have hp : Hw t l on g = [] := by
  unfold Hw Ku
  rw [Zg h]
 rw [hp] at e1 e2
 rw [AdD h c,e2,e1]
 exact ⟨rfl,rfl⟩
theorem Aft (w : WfT t) (h : ∀ c,(cfg l c).partition ≠ 1) : Ka t l on = [] := by
 rw [List.eq_nil_iff_forall_not_mem]
 intro x hx
 obtain ⟨h1,h2,h3⟩ := aloneL_mem.mp hx
 obtain ⟨n,hn,rfl⟩ := hasN_iff.mp h1
 rcases w.p.par n hn with ⟨h4,_⟩ | ⟨_,_,⟨y,hy,hyp⟩,_⟩
 ·exact h2 h4
 ·rw [(Aat (on := on) w h (hasN_iff.mpr ⟨y,hy,hyp⟩) (kids_iff.mpr ⟨n,hn,rfl,rfl⟩)).2] at h3
  simp at h3
theorem cfg_new (g : Int) : cfg (Uo t) g = dfS := by
 refine Adx (P := fun s => s = dfS) (fun x hx => ?_) rfl g
 obtain ⟨y,_,rfl⟩ := List.mem_map.mp hx
 rfl
theorem own_new (w : WfT t) : ∀ x ∈ t.nodes,Ju t (Uo t) on x.id = on := by
 have h : ∀ c,(cfg (Uo t) c).partition ≠ 1 := fun c => by rw [cfg_new]; simp [dfS]
 refine w.induct fun x hx ih => ?_
 rcases w.p.par x hx with ⟨h1,_⟩ | ⟨_,_,⟨y,hy,hyp⟩,_⟩
 ·rw [h1,AdD h,(Zw w).1]
 ·have := ih y hy hyp
  rw [hyp] at this
  rw [(Aat (on := on) w h (hasN_iff.mpr ⟨y,hy,hyp⟩) (kids_iff.mpr ⟨x,hx,rfl,rfl⟩)).1,this,cfg_new]
  rfl
theorem Ady (l0 : List Int) : Ok (Jz l0) (· = true) := by
 have sane : ∀ {f : Bool → Option Bool},f true = some true → Ok (Option.bind Nc f) (· = true) := fun h => Ok.step AeB (Ok.of_eq h rfl)
 unfold Jz Vd
 refine Ok.step rfl ?_
 refine Ok.ite (fun _ => sane rfl) fun c => ?_
 have hl : l0.length ≤ 600 := by
  have : ((l0.length : Nat) : Int) ≤ 600 := by simpa using c
  omega
 refine Ok.step (a := { l := l0,atF := 0 }) rfl ?_
 refine Ok.bind (Tree_ok (dice_roll hl) 7 (by omega) (by omega)) fun r5 ⟨w,hd⟩ => ?_
 have hn := w.len2
 rw [AbX w,Option.bind_some]
 refine Ok.bind (Online_ok hd (n := 8) (by omega) (by omega)) fun r7 ⟨ho,hpos,hd⟩ => ?_
 have h16 : okSet 16 r7.1 := AcO ho (by omega)
 have hol := ho.len (by omega)
 have u0 : UseS r5.1 (Uo r5.1) r7.1 := ⟨AdY w,hpos,h16⟩
 refine Ok.guard (by omega) ?_
 refine Ok.range (fun _ _ => True) trivial ?_ ?_
 ·intro pre x post s n he _ hm
  have hx : x ∈ r5.1.nodes := by rw [he]; simp
  unfold Oj
  rw [AcR u0 AcM,Option.bind_some,if_pos (hasN_iff.mpr ⟨x,hx,rfl⟩),own_new w x hx,Ys _ (by omega),Option.bind_some,if_neg (by simp)]
  exact hm () trivial
 ·intro s _
  unfold Om
  have hnl : (Uo r5.1).length = r5.1.nodes.length := by simp [Uo]
  refine Ok.guard (by omega) ?_
  have e : Int.toNat ((((Uo r5.1).length : Nat) : Int) - 0) = r5.1.nodes.length := by rw [hnl]; simp
  rw [e]
  refine Ok.for (fun _ s => Hb s.1 ∧ FitsS r5.1 s.2 ∧ ∀ x ∈ s.2,Hj x.settings ∧ x.settings.partition = 0) ⟨hd,AdY w,fun x hx => ⟨AcM x hx,?_⟩⟩ ?_ ?_
  ·obtain ⟨y,_,rfl⟩ := List.mem_map.mp hx
   rfl
  ·rintro j ⟨d,L⟩ m hj ⟨hd,f,hs⟩ hm
   simp only at hd f hs
   have hL := f.len
   unfold No Ih
   refine Ok.bind (Adf hd 2 (by omega)) fun r317 hd => Ok.ite (fun _ => ?_) fun _ => hm _ ⟨hd,f,hs⟩
   refine Ok.bind (Set_ok hd (n := 8) (by omega) (by omega)) fun r322 ⟨h8,hd⟩ => ?_
   have hjL : j < L.length := by omega
   have e0 : (0 : Int) + (j : Int) = (j : Int) := by omega
   rw [e0]
   refine Ok.guard (by simp only; omega) (Ok.guard (by simp only [Int.toNat_natCast]; omega) (Ok.step rfl (hm _ ⟨hd,?_,?_⟩)))
   ·simp only [Int.toNat_natCast]
    refine ⟨w,?_,fun x hx => ?_⟩
    ·rw [List.map_set,← f.grp]
     apply List.ext_getElem?
     intro i
     rw [List.getElem?_set]
     split
     ·rename_i hij
      subst hij
      rw [if_pos (by simp; omega),List.getElem?_map,List.getElem?_eq_getElem hjL,Dy hjL]
      rfl
     ·rfl
    ·rcases List.mem_or_eq_of_mem_set hx with h | h
     ·exact f.chk x h
     ·subst h
      obtain ⟨c1,c2,c3,c4,c5,c6,c7,c8,c9,c10⟩ := f.chk _ (Pl (d := default) hjL)
      exact ⟨c1,c2,c3,c4,c5,AcO h8 (by omega),c7,c8,c9,c10⟩
   ·simp only [Int.toNat_natCast]
    intro x hx
    rcases List.mem_or_eq_of_mem_set hx with h | h
    ·exact hs x h
    ·subst h
     have h8l := h8.len (by omega)
     obtain ⟨⟨s1,s2,s3⟩,s4⟩ := hs _ (Pl (d := default) hjL)
     exact ⟨⟨by simp only; omega,s2,s3⟩,s4⟩
  ·rintro ⟨d,L⟩ ⟨hd,f,hs⟩
   simp only at f hs
   have hL := f.len
   have u : UseS r5.1 L r7.1 := ⟨f,hpos,h16⟩
   have hsm : ∀ x ∈ L,Hj x.settings := fun x hx => (hs x hx).1
   have hp : ∀ c,(cfg L c).partition ≠ 1 := fun c => by
    have := Adx (P := fun s => s.partition = 0) (fun x hx => (hs x hx).2) rfl c
    omega
   unfold Np
   refine Ok.guard (by omega) ?_
   refine Ok.range (fun _ _ => True) trivial ?_ ?_
   ·intro pre x post s n he _ hm
    have hx : x ∈ r5.1.nodes := by rw [he]; simp
    have hpl : pre.length < r5.1.nodes.length := by rw [he]; simp
    have hxd : r5.1.nodes.getD pre.length default = x := by rw [he]; exact Wq
    unfold Na Gv
    refine Ok.ite (fun _ => hm () trivial) fun c1 => ?_
    have c1 : x.id ≠ 1 := by simpa using c1
    have hpar := AfQ w hx c1
    obtain ⟨k1,k2⟩ := Aat (l := L) (on := r7.1) w hp hpar (kids_iff.mpr ⟨x,hx,rfl,rfl⟩)
    obtain ⟨o1,o2,o3,o4⟩ := Abi u hpar
    have hcfg := cfg_at f hpl
    rw [hxd] at hcfg
    have hck := (f.cfg x.id).small
    rw [AcR u hsm,Option.bind_some,if_pos hpar]
    refine Ok.guard (by simp only; omega) (Ok.guard (by simp only; omega) ?_)
    simp only
    rw [← hcfg,Aby hck.2.2.1 (by omega) (by omega),Option.bind_some]
    have hJ : Ok (Gt r5 r7 (d,L) x n (Kf (cfg L x.id).cpus (Ju r5.1 L r7.1 x.parent))) (· = true) := by
     unfold Gt Gv
     simp only
     obtain ⟨_,_,_,q4⟩ := Abi u (hasN_iff.mpr ⟨x,hx,rfl⟩)
     rw [AcR u hsm,Option.bind_some,if_pos (hasN_iff.mpr ⟨x,hx,rfl⟩),k1,Ys _ (by rw [← k1]; omega),Option.bind_some,if_neg (by simp)]
     exact hm () trivial
    refine Ok.ite (fun c2 => ?_) fun c2 => ?_
    ·have c2 : (Mo (cfg L x.id).cpus (Ju r5.1 L r7.1 x.parent)).length = 0 := by
      have := beq_iff_eq.mp c2
      omega
     unfold Kf at hJ
     rw [if_neg (by omega)] at hJ
     exact hJ
    ·have c2 : (Mo (cfg L x.id).cpus (Ju r5.1 L r7.1 x.parent)).length > 0 := by
      have : ¬ (((Mo (cfg L x.id).cpus (Ju r5.1 L r7.1 x.parent)).length : Nat) : Int) = 0 := by simpa using c2
      omega
     unfold Kf at hJ
     rw [if_pos c2] at hJ
     exact hJ
   ·intro s _
    unfold Nf Ij
    simp only
    rw [AaN u hsm,Option.bind_some,Aft w hp,if_pos (by simp)]
    exact sane rfl
theorem Acn (l : List Int) (_ : ∀ n ∈ l,-9223372036854775808 ≤ n ∧ n ≤ 9223372036854775807) : Jz l = some true := (Ady l).eq
end Go.Dm

/- Models of Go types and functions, printed by a program. -/
namespace Go.Dm
set_option linter.unusedVariables false

end Go.Dm


/- Types of the program. -/
namespace Go.Dm
open Go.Proofs
set_option linter.unusedVariables false
def Tt : Ty := [(3,⟨.int .i64,1,8,[.int .i64 0],false⟩),
  (4,⟨.bool,1,1,[.bool false],false⟩),
  (5,⟨.int .u8,1,1,[.int .u8 0],false⟩),
  (9,⟨.str,1,16,[.string ByteArray.empty],false⟩),
  (22,⟨.slice 3,1,24,[.slice none 0 0],false⟩),
  (27,⟨.slice 37,1,24,[.slice none 0 0],false⟩),
  (29,⟨.struct [(0,27),(1,3)],2,32,[.slice none 0 0,.int .i64 0],false⟩),
  (31,⟨.slice 45,1,24,[.slice none 0 0],false⟩),
  (37,⟨.struct [(0,3),(1,3),(2,9),(3,3),(4,3),(5,3)],6,56,[.int .i64 0,.int .i64 0,.string ByteArray.empty,.int .i64 0,.int .i64 0,.int .i64 0],false⟩),
  (38,⟨.func,1,8,[.nilFunc],false⟩),
  (40,⟨.struct [(0,3),(1,3),(2,3),(3,3),(4,3),(5,4)],6,48,[.int .i64 0,.int .i64 0,.int .i64 0,.int .i64 0,.int .i64 0,.bool false],false⟩),
  (41,⟨.slice 119,1,24,[.slice none 0 0],false⟩),
  (43,⟨.struct [(0,3),(1,3),(2,3),(3,3),(4,3),(5,3),(6,3),(7,22),(8,22),(9,3),(10,40),(16,41)],17,184,[.int .i64 0,.int .i64 0,.int .i64 0,.int .i64 0,.int .i64 0,.int .i64 0,.int .i64 0,.slice none 0 0,.slice none 0 0,.int .i64 0,.int .i64 0,.int .i64 0,.int .i64 0,.int .i64 0,.int .i64 0,.bool false,.slice none 0 0],false⟩),
  (45,⟨.struct [(0,3),(1,43)],18,192,[.int .i64 0,.int .i64 0,.int .i64 0,.int .i64 0,.int .i64 0,.int .i64 0,.int .i64 0,.int .i64 0,.slice none 0 0,.slice none 0 0,.int .i64 0,.int .i64 0,.int .i64 0,.int .i64 0,.int .i64 0,.int .i64 0,.bool false,.slice none 0 0],false⟩),
  (48,⟨.int .i64,1,8,[.int .i64 0],false⟩),
  (54,⟨.struct [(0,22),(1,3)],2,32,[.slice none 0 0,.int .i64 0],false⟩),
  (61,⟨.map 3 22,1,8,[(.map none)],false⟩),
  (62,⟨.map 3 4,1,8,[(.map none)],false⟩),
  (64,⟨.struct [(0,29),(2,31),(3,61),(4,62)],5,72,[.slice none 0 0,.int .i64 0,.slice none 0 0,(.map none),(.map none)],false⟩),
  (74,⟨.slice 9,1,24,[.slice none 0 0],false⟩),
  (81,⟨.int .u64,1,8,[.int .u64 0],false⟩),
  (89,⟨.int .i64,1,8,[.int .i64 0],false⟩),
  (100,⟨.int .u64,1,8,[.int .u64 0],false⟩),
  (104,⟨.map 3 3,1,8,[(.map none)],false⟩),
  (112,⟨.int .u64,1,8,[.int .u64 0],false⟩),
  (119,⟨.struct [(0,3),(1,3),(2,3),(3,3),(4,3),(5,3),(6,3)],7,56,[.int .i64 0,.int .i64 0,.int .i64 0,.int .i64 0,.int .i64 0,.int .i64 0,.int .i64 0],false⟩),
  (127,⟨.slice 5,1,24,[.slice none 0 0],false⟩)]
theorem Tgood : La Try.prog Tt := tyGood_of ⟨⟨⟨by kernel_rfl,by kernel_rfl⟩,trivial⟩,⟨⟨by kernel_rfl,by kernel_rfl⟩,trivial⟩,⟨⟨by kernel_rfl,by kernel_rfl⟩,trivial⟩,⟨⟨by kernel_rfl,by kernel_rfl⟩,trivial⟩,⟨⟨by kernel_rfl,by kernel_rfl⟩,trivial⟩,⟨⟨by kernel_rfl,by kernel_rfl⟩,trivial⟩,⟨⟨by kernel_rfl,by kernel_rfl⟩,trivial⟩,⟨⟨by kernel_rfl,by kernel_rfl⟩,trivial⟩,⟨⟨by kernel_rfl,by kernel_rfl⟩,trivial⟩,⟨⟨by kernel_rfl,by kernel_rfl⟩,trivial⟩,⟨⟨by kernel_rfl,by kernel_rfl⟩,trivial⟩,⟨⟨by kernel_rfl,by kernel_rfl⟩,trivial⟩,⟨⟨by kernel_rfl,by kernel_rfl⟩,trivial⟩,⟨⟨by kernel_rfl,by kernel_rfl⟩,trivial⟩,⟨⟨by kernel_rfl,by kernel_rfl⟩,trivial⟩,⟨⟨by kernel_rfl,by kernel_rfl⟩,trivial⟩,⟨⟨by kernel_rfl,by kernel_rfl⟩,trivial⟩,⟨⟨by kernel_rfl,by kernel_rfl⟩,trivial⟩,⟨⟨by kernel_rfl,by kernel_rfl⟩,trivial⟩,⟨⟨by kernel_rfl,by kernel_rfl⟩,trivial⟩,⟨⟨by kernel_rfl,by kernel_rfl⟩,trivial⟩,⟨⟨by kernel_rfl,by kernel_rfl⟩,trivial⟩,⟨⟨by kernel_rfl,by kernel_rfl⟩,trivial⟩,⟨⟨by kernel_rfl,by kernel_rfl⟩,trivial⟩,⟨⟨by kernel_rfl,by kernel_rfl⟩,trivial⟩,⟨⟨by kernel_rfl,by kernel_rfl⟩,trivial⟩,⟨⟨by kernel_rfl,by kernel_rfl⟩,trivial⟩,trivial⟩ (by kernel_rfl) (by kernel_rfl)
theorem mixed : Try.prog.follows .mixedOrders = true := by kernel_rfl
theorem RK {cx : Cx} {σ : St} {Q : Exit → St → Prop} {nt : Nat} (hnt : cx.nt = nt) {ops : Array Oper} {id : Nat} {draw : Bool} {r : List Code} (xs : List Orc) (sl : List (Nat × MV)) (ob : List (Nat × Obj))
    {q : Prop} (hq : q) (hQ : DW Try.prog cx r (Ae sl ob) Q) (h : Tj Try.prog Tt nt ops xs (Cu sl) (Cu ob) draw σ = some ((sl,ob),q) := by kernel_rfl) : DW Try.prog cx (.region id ops draw :: r) σ Q := DW.rk Tgood mixed hnt xs sl ob hq h hQ
theorem RD {cx : Cx} {Q : Exit → St → Prop} {nt : Nat} (hnt : cx.nt = nt) {ops : Array Oper} {id : Nat} {draw : Bool} {r : List Code} {sl0 : List (Nat × MV)} {ob0 : List (Nat × Obj)} (xs : List Orc) (ds : List Nat) (us : List (Nat × MV)) (dk : List Nat) (uo : List (Nat × Obj))
    {q : Prop} (hq : q) (hQ : DW Try.prog cx r (Ae (up ds us sl0) (up dk uo ob0)) Q) (h : Tj Try.prog Tt nt ops xs (Cu (up ds us sl0)) (Cu (up dk uo ob0)) draw (Ae sl0 ob0) = some ((up ds us sl0,up dk uo ob0),q) := by kernel_rfl) : DW Try.prog cx (.region id ops draw :: r) (Ae sl0 ob0) Q := DW.rd Tgood mixed hnt xs ds us dk uo hq hQ h
theorem SO {f : FuncId} {fn : Func} {c : Code} (hf : Try.prog.funcs[f]? = some fn) (hb : fn.body = some c)
    {args : List MV} {outs : List Body} {res : MV} {outs' news : List Body} (hlen : outs'.length = outs.length)
    (sl : List (Nat × MV)) (ob : List (Nat × Obj)) (hd : ∀ cx : Cx,cx.nt = fn.ntmps → DW Try.prog cx [c] (Ae sl ob) (finQ Tt fn.results.toList outs.length res (outs' ++ news)))
    (hname : fn.name ≠ "runtime.NumGoroutine" := by decide) (hle : Nat.ble args.length fn.ntmps = true := by rfl) (hm : Nat.ble outs.length 1000 = true := by rfl)
    (h1 : We (upN args.length 0) (upN outs.length 0) ⟨fun t => (args[t]?).getD .any,Bs outs⟩ = sl := by kernel_rfl)
    (h2 : Sl (upN outs.length 0) ⟨fun t => (args[t]?).getD .any,Bs outs⟩ = ob := by kernel_rfl) :
    Spec Try.prog f args outs res outs' news := spec_of Tgood hf hname hb hlen (Nat.le_of_ble_eq_true hle) (Nat.le_of_ble_eq_true hm) h1 h2 fun cx hnt => DW.start (hd cx hnt)
theorem RN {cx : Cx} {σ : St} {Q : Exit → St → Prop} {nt : Nat} (hnt : cx.nt = nt) {ops : Array Oper} {id : Nat} {draw : Bool} {r : List Code} (xs : List Orc) (sl : List (Nat × MV)) (ob : List (Nat × Obj))
    (ps : List (Nat × MV)) (qs : List (Nat × Body)) {q : Prop} (hq : q) (h : Tj Try.prog Tt nt ops xs (Cu sl) (Cu ob) draw σ = some ((Pg ps sl,Nv qs ob),q)) (hs : SP sl ps) (ho : OP ob qs)
    (hQ : DW Try.prog cx r (Ae sl ob) Q) : DW Try.prog cx (.region id ops draw :: r) σ Q := DW.rn Tgood mixed hnt xs sl ob ps qs hq h hs ho hQ
theorem RT {cx : Cx} {σ : St} {nt : Nat} (hnt : cx.nt = nt) {ops : Array Oper} {draw : Bool} {sl : List (Nat × MV)} {ob : List (Nat × Obj)} (xs : List Orc)
    (ps : List (Nat × MV)) {q : Prop} (hq : q) (h : Tj Try.prog Tt nt ops xs (Cu sl) (Cu ob) draw σ = some ((Pg ps sl,ob),q)) (hs : SP sl ps) : RegTo Try.prog cx ops draw σ sl ob := RegTo.rn Tgood mixed hnt xs ps hq h hs
end Go.Dm


/- Go functions compute their models, printed by a program. -/
namespace Go.Dm
open Go.Proofs
set_option linter.unusedVariables false
theorem Adj (p0 : List Int) (RES : Bool) (hm : Vd p0 = some RES) : Spec Try.prog 4 [.p (slI p0)] [] (pB RES) [] [] := by
 unfold Vd at hm
 refine SO Try.func4 rfl rfl [(0,.p (slI p0))] [] ?_
 intro cx hnt
 refine Sq (RK hnt (.no :: []) [(0,.p (slI p0))] [] tv ?_)
 refine Sq (RK hnt (nn 4 []) [(2,pB (decide (((p0.length : Nat) : Int) ≤ 600)))] [] tv ?_)
 obtain rfl := sj hm
 exact DW.ret (Ak [] [] (pB (decide (((p0.length : Nat) : Int) ≤ 600))))
abbrev o2 (ks : List Nat) (b : Bool) (RES : Bool) (sm : List Nat := []) : Orc := .call 4 ks b (pB RES) [] [] sm

abbrev c4e1 := ({ id := 1,parent := 0,name := ByteArray.empty,control := 0,kind := 0,owner := 0 } : Ai)
theorem Abd (RES : Ac) (hm : Wh = some RES) : Spec Try.prog 17 [] [] (.agg [ow 0 RES.nodes.length,pI RES.next]) [] [Cq RES.nodes] := by
 unfold Wh at hm
 refine SO Try.func17 rfl rfl [] [] ?_
 intro cx hnt
 refine Sq (RK hnt (.no :: []) [(0,rr 1000)] [(1000,bx [.p (.sl .nil 0 0 (fun _ => [])),pI 0])] tv ?_)
 refine Sq (RN hnt (nn 4 []) [(0,rr 1000)] [(1000,bx [ow 1016 [(c4e1)].length,pI 2]),(1016,ob0 (Cq [(c4e1)]))] [] [(1000,.box [ow 1016 1,pI 2]),(1016,.row 6 1 (cut 6 [vi 1,vi 0,vs ByteArray.empty,vi 0,vi 0,vi 0]))] tv (by kernel_rfl) .nil (.cons rfl (.box (.cons (MLe.ownLen (enc := Bw) (d := De) (f := (cut 6 [vi 1,vi 0,vs ByteArray.empty,vi 0,vi 0,vi 0])) (RowIs.lit (enc := Bw) (d := De) (n := 1) (f := (cut 6 [vi 1,vi 0,vs ByteArray.empty,vi 0,vi 0,vi 0])) [(c4e1)] rfl (fun | 0,_ => rfl | n + 1,h => absurd h (by omega)))) (.cons .rfl .nil))) (.cons rfl (BLe.typed (RowIs.lit (enc := Bw) (d := De) (n := 1) (f := (cut 6 [vi 1,vi 0,vs ByteArray.empty,vi 0,vi 0,vi 0])) [(c4e1)] rfl (fun | 0,_ => rfl | n + 1,h => absurd h (by omega)))) .nil)) ?_)
 obtain rfl := sj hm
 exact DW.ret (Ak [Cq [(c4e1)]] [1016] (.agg [ow 0 [(c4e1)].length,pI 2]))
abbrev o4 (ks : List Nat) (b : Bool) (RES : Ac) (sm : List Nat := []) : Orc := .call 17 ks b (.agg [ow 0 RES.nodes.length,pI RES.next]) [] [Cq RES.nodes] sm

abbrev c8e1 (p0 : ByteArray) (k1 : Int) : Nat × MV := (57,pB (!((((Bi p0 (Int.toNat k1)) : Nat) : Int) == 45)))
theorem Yx (p0 : ByteArray) (RES : Bool) (hm : Pq p0 = some RES) : Spec Try.prog 30 [pS p0] [] (pB RES) [] [] := by
 unfold Pq at hm
 refine SO Try.func30 rfl rfl [(0,pS p0)] [] ?_
 intro cx hnt
 refine Sq (RK hnt (.no :: []) [(0,pS p0)] [] tv ?_)
 refine Sq (Sq ?_)
 refine Jn (ι := Bool) (fun (y1 : Bool) => Ae [(0,pS p0),(17,pB y1)] []) (fun y1 => (Mc p0) y1 = some RES) ?_ ?_
 ·intro y1 hm
  unfold Mc at hm
  refine An hm ?_ ?_
  ·intro h4 hm
   refine Sq (RK hnt (.no :: []) [(2,pB false)] [] tv ?_)
   obtain rfl := sj hm
   exact DW.ret (Ak [] [] (pB false))
  ·intro h4 hm
   refine Sk ?_
   refine Sq (Sq (RK hnt (.no :: []) [(0,pS p0),(3,pI 0)] [] tv ?_))
   refine Bk ?_
   obtain ⟨hc1,hm⟩ := go1 hm
   refine DW.forO (fun (k1 : Int) (s1 : Unit) => Ae [(0,pS p0),(3,pI k1)] []) (lo := 0) (hi := ((p0.size : Nat) : Int)) hm .refl ?_
   intro k1 s1 n1 hk1 hs1 he1
   refine Sq (Sq (RD hnt (nn 4 []) [] [(21,pB (decide (k1 < ((p0.size : Nat) : Int))))] [] [] tv ?_))
   refine Dr (decide (k1 < ((p0.size : Nat) : Int))) ?_ ?_
   ·intro h55
    have hlt1 : k1 < ((p0.size : Nat) : Int) := by have := of_decide_eq_true h55; omega
    have hm := hs1 hlt1
    unfold Ws at hm
    refine Sk ?_
    refine Sq (Bk ?_)
    obtain ⟨g56,hm⟩ := go1 hm
    refine Sq (RD hnt (nn 4 []) [21] [(4,.p (vk .u8 (((Bi p0 (Int.toNat k1)) : Nat) : Int)))] [] [] (an g56.1 (an g56.2 tv)) ?_)
    refine Sq (DW.regJ (sl2 := [(0,pS p0),(3,pI k1),(57,pB (!((((((decide ((((Bi p0 (Int.toNat k1)) : Nat) : Int) ≥ 97)) && (decide ((((Bi p0 (Int.toNat k1)) : Nat) : Int) ≤ 122))) || ((decide ((((Bi p0 (Int.toNat k1)) : Nat) : Int) ≥ 65)) && (decide ((((Bi p0 (Int.toNat k1)) : Nat) : Int) ≤ 90)))) || ((decide ((((Bi p0 (Int.toNat k1)) : Nat) : Int) ≥ 48)) && (decide ((((Bi p0 (Int.toNat k1)) : Nat) : Int) ≤ 57)))) || ((((Bi p0 (Int.toNat k1)) : Nat) : Int) == 95)) || ((((Bi p0 (Int.toNat k1)) : Nat) : Int) == 45))))]) (ob2 := []) ?_ ?_)
    ·rcases bt (decide ((((Bi p0 (Int.toNat k1)) : Nat) : Int) ≥ 97)) with h57 | h57
     ·rcases bt (decide ((((Bi p0 (Int.toNat k1)) : Nat) : Int) ≤ 122)) with h58 | h58
      ·exact RT hnt (nn 5 (pT :: .no :: sk 6 (pT :: .no :: sk 6 (pT :: .no :: sk 2 (pT :: .no :: sk 2 (pT :: .no :: [])))))) [(57,pB false)] (an3 h57 (an5 h58 (an5 tt (an6 tt tv)))) (by kernel_rfl) (.cons rfl (.of_eq (by rw [h57,h58]; try rfl)) .nil)
      ·rcases bt (decide ((((Bi p0 (Int.toNat k1)) : Nat) : Int) ≥ 65)) with h59 | h59
       ·rcases bt (decide ((((Bi p0 (Int.toNat k1)) : Nat) : Int) ≤ 90)) with h60 | h60
        ·exact RT hnt (nn 5 (pT :: nn 6 (pT :: pF :: .no :: sk 6 (pT :: .no :: sk 2 (pT :: .no :: sk 2 (pT :: .no :: [])))))) [(57,pB false)] (an3 h57 (an3 h58 (an2 h59 (an h58 (an h59 (an h58 (an5 h60 (an6 tt tv)))))))) (by kernel_rfl) (.cons rfl (.of_eq (by rw [h57,h58,h59,h60]; try rfl)) .nil)
        ·rcases bt (decide ((((Bi p0 (Int.toNat k1)) : Nat) : Int) ≥ 48)) with h61 | h61
         ·rcases bt (decide ((((Bi p0 (Int.toNat k1)) : Nat) : Int) ≤ 57)) with h62 | h62
          ·exact RT hnt (nn 5 (pT :: nn 6 (pT :: pF :: nn 6 (pT :: pF :: .no :: sk 2 (pT :: .no :: sk 2 (pT :: .no :: [])))))) [(57,pB false)] (an3 h57 (an3 h58 (an2 h59 (an h58 (an h59 (an h58 (an3 h60 (an2 h61 (an h60 (an h61 (an h60 (an3 h62 (an3 tt tv))))))))))))) (by kernel_rfl) (.cons rfl (.of_eq (by rw [h57,h58,h59,h60,h61,h62]; try rfl)) .nil)
          ·rcases bt ((((Bi p0 (Int.toNat k1)) : Nat) : Int) == 95) with h63 | h63
           ·exact RT hnt (nn 5 (pT :: nn 6 (pT :: pF :: nn 6 (pT :: pF :: nn 3 (pF :: .no :: sk 2 (pT :: .no :: [])))))) [(57,pB false)] (an3 h57 (an3 h58 (an2 h59 (an h58 (an h59 (an h58 (an3 h60 (an2 h61 (an h60 (an h61 (an h60 (an3 h62 (an3 h63 tv))))))))))))) (by kernel_rfl) (.cons rfl (.of_eq (by rw [h57,h58,h59,h60,h61,h62,h63]; try rfl)) .nil)
           ·exact RT hnt (nn 5 (pT :: nn 6 (pT :: pF :: nn 6 (pT :: pF :: nn 3 (pF :: nn 3 (pF :: .no :: [])))))) [(c8e1 p0 k1)] (an3 h57 (an3 h58 (an2 h59 (an h58 (an h59 (an h58 (an3 h60 (an2 h61 (an h60 (an h61 (an h60 (an3 h62 (an3 h63 tv))))))))))))) (by kernel_rfl) (.cons rfl (.of_eq (by rw [h57,h58,h59,h60,h61,h62,h63]; try rfl)) .nil)
         ·rcases bt ((((Bi p0 (Int.toNat k1)) : Nat) : Int) == 95) with h64 | h64
          ·exact RT hnt (nn 5 (pT :: nn 6 (pT :: pF :: nn 4 (sk 2 (pF :: pF :: nn 3 (pF :: .no :: sk 2 (pT :: .no :: []))))))) [(57,pB false)] (an3 h57 (an3 h58 (an2 h59 (an h58 (an h59 (an h58 (an3 h60 (an2 h61 (an h60 (an h61 (an h60 (an3 ff (an3 h64 tv))))))))))))) (by kernel_rfl) (.cons rfl (.of_eq (by rw [h57,h58,h59,h60,h61,h64]; try rfl)) .nil)
          ·exact RT hnt (nn 5 (pT :: nn 6 (pT :: pF :: nn 4 (sk 2 (pF :: pF :: nn 3 (pF :: nn 3 (pF :: .no :: []))))))) [(c8e1 p0 k1)] (an3 h57 (an3 h58 (an2 h59 (an h58 (an h59 (an h58 (an3 h60 (an2 h61 (an h60 (an h61 (an h60 (an3 ff (an3 h64 tv))))))))))))) (by kernel_rfl) (.cons rfl (.of_eq (by rw [h57,h58,h59,h60,h61,h64]; try rfl)) .nil)
       ·rcases bt (decide ((((Bi p0 (Int.toNat k1)) : Nat) : Int) ≥ 48)) with h65 | h65
        ·rcases bt (decide ((((Bi p0 (Int.toNat k1)) : Nat) : Int) ≤ 57)) with h66 | h66
         ·exact RT hnt (nn 5 (pT :: nn 4 (sk 2 (pF :: pF :: nn 6 (pT :: pF :: .no :: sk 2 (pT :: .no :: sk 2 (pT :: .no :: []))))))) [(57,pB false)] (an3 h57 (an3 h58 (an2 h59 (an h58 (an h59 (an h58 (an3 ff (an2 h65 (an ff (an h65 (an ff (an3 h66 (an3 tt tv))))))))))))) (by kernel_rfl) (.cons rfl (.of_eq (by rw [h57,h58,h59,h65,h66]; try rfl)) .nil)
         ·rcases bt ((((Bi p0 (Int.toNat k1)) : Nat) : Int) == 95) with h67 | h67
          ·exact RT hnt (nn 5 (pT :: nn 4 (sk 2 (pF :: pF :: nn 6 (pT :: pF :: nn 3 (pF :: .no :: sk 2 (pT :: .no :: []))))))) [(57,pB false)] (an3 h57 (an3 h58 (an2 h59 (an h58 (an h59 (an h58 (an3 ff (an2 h65 (an ff (an h65 (an ff (an3 h66 (an3 h67 tv))))))))))))) (by kernel_rfl) (.cons rfl (.of_eq (by rw [h57,h58,h59,h65,h66,h67]; try rfl)) .nil)
          ·exact RT hnt (nn 5 (pT :: nn 4 (sk 2 (pF :: pF :: nn 6 (pT :: pF :: nn 3 (pF :: nn 3 (pF :: .no :: []))))))) [(c8e1 p0 k1)] (an3 h57 (an3 h58 (an2 h59 (an h58 (an h59 (an h58 (an3 ff (an2 h65 (an ff (an h65 (an ff (an3 h66 (an3 h67 tv))))))))))))) (by kernel_rfl) (.cons rfl (.of_eq (by rw [h57,h58,h59,h65,h66,h67]; try rfl)) .nil)
        ·rcases bt ((((Bi p0 (Int.toNat k1)) : Nat) : Int) == 95) with h68 | h68
         ·exact RT hnt (nn 5 (pT :: nn 4 (sk 2 (pF :: pF :: nn 4 (sk 2 (pF :: pF :: nn 3 (pF :: .no :: sk 2 (pT :: .no :: [])))))))) [(57,pB false)] (an3 h57 (an3 h58 (an2 h59 (an h58 (an h59 (an h58 (an3 ff (an2 h65 (an ff (an h65 (an4 ff (an3 h68 tv)))))))))))) (by kernel_rfl) (.cons rfl (.of_eq (by rw [h57,h58,h59,h65,h68]; try rfl)) .nil)
         ·exact RT hnt (nn 5 (pT :: nn 4 (sk 2 (pF :: pF :: nn 4 (sk 2 (pF :: pF :: nn 3 (pF :: nn 3 (pF :: .no :: [])))))))) [(c8e1 p0 k1)] (an3 h57 (an3 h58 (an2 h59 (an h58 (an h59 (an h58 (an3 ff (an2 h65 (an ff (an h65 (an4 ff (an3 h68 tv)))))))))))) (by kernel_rfl) (.cons rfl (.of_eq (by rw [h57,h58,h59,h65,h68]; try rfl)) .nil)
     ·rcases bt (decide ((((Bi p0 (Int.toNat k1)) : Nat) : Int) ≥ 65)) with h69 | h69
      ·rcases bt (decide ((((Bi p0 (Int.toNat k1)) : Nat) : Int) ≤ 90)) with h70 | h70
       ·exact RT hnt (nn 3 (sk 2 (pF :: nn 6 (pT :: pF :: .no :: sk 6 (pT :: .no :: sk 2 (pT :: .no :: sk 2 (pT :: .no :: []))))))) [(57,pB false)] (an3 h57 (an3 ff (an2 h69 (an ff (an h69 (an ff (an5 h70 (an6 tt tv)))))))) (by kernel_rfl) (.cons rfl (.of_eq (by rw [h57,h69,h70]; try rfl)) .nil)
       ·rcases bt (decide ((((Bi p0 (Int.toNat k1)) : Nat) : Int) ≥ 48)) with h71 | h71
        ·rcases bt (decide ((((Bi p0 (Int.toNat k1)) : Nat) : Int) ≤ 57)) with h72 | h72
         ·exact RT hnt (nn 3 (sk 2 (pF :: nn 6 (pT :: pF :: nn 6 (pT :: pF :: .no :: sk 2 (pT :: .no :: sk 2 (pT :: .no :: []))))))) [(57,pB false)] (an3 h57 (an3 ff (an2 h69 (an ff (an h69 (an ff (an3 h70 (an2 h71 (an h70 (an h71 (an h70 (an3 h72 (an3 tt tv))))))))))))) (by kernel_rfl) (.cons rfl (.of_eq (by rw [h57,h69,h70,h71,h72]; try rfl)) .nil)
         ·rcases bt ((((Bi p0 (Int.toNat k1)) : Nat) : Int) == 95) with h73 | h73
          ·exact RT hnt (nn 3 (sk 2 (pF :: nn 6 (pT :: pF :: nn 6 (pT :: pF :: nn 3 (pF :: .no :: sk 2 (pT :: .no :: []))))))) [(57,pB false)] (an3 h57 (an3 ff (an2 h69 (an ff (an h69 (an ff (an3 h70 (an2 h71 (an h70 (an h71 (an h70 (an3 h72 (an3 h73 tv))))))))))))) (by kernel_rfl) (.cons rfl (.of_eq (by rw [h57,h69,h70,h71,h72,h73]; try rfl)) .nil)
          ·exact RT hnt (nn 3 (sk 2 (pF :: nn 6 (pT :: pF :: nn 6 (pT :: pF :: nn 3 (pF :: nn 3 (pF :: .no :: []))))))) [(c8e1 p0 k1)] (an3 h57 (an3 ff (an2 h69 (an ff (an h69 (an ff (an3 h70 (an2 h71 (an h70 (an h71 (an h70 (an3 h72 (an3 h73 tv))))))))))))) (by kernel_rfl) (.cons rfl (.of_eq (by rw [h57,h69,h70,h71,h72,h73]; try rfl)) .nil)
        ·rcases bt ((((Bi p0 (Int.toNat k1)) : Nat) : Int) == 95) with h74 | h74
         ·exact RT hnt (nn 3 (sk 2 (pF :: nn 6 (pT :: pF :: nn 4 (sk 2 (pF :: pF :: nn 3 (pF :: .no :: sk 2 (pT :: .no :: [])))))))) [(57,pB false)] (an3 h57 (an3 ff (an2 h69 (an ff (an h69 (an ff (an3 h70 (an2 h71 (an h70 (an h71 (an h70 (an3 ff (an3 h74 tv))))))))))))) (by kernel_rfl) (.cons rfl (.of_eq (by rw [h57,h69,h70,h71,h74]; try rfl)) .nil)
         ·exact RT hnt (nn 3 (sk 2 (pF :: nn 6 (pT :: pF :: nn 4 (sk 2 (pF :: pF :: nn 3 (pF :: nn 3 (pF :: .no :: [])))))))) [(c8e1 p0 k1)] (an3 h57 (an3 ff (an2 h69 (an ff (an h69 (an ff (an3 h70 (an2 h71 (an h70 (an h71 (an h70 (an3 ff (an3 h74 tv))))))))))))) (by kernel_rfl) (.cons rfl (.of_eq (by rw [h57,h69,h70,h71,h74]; try rfl)) .nil)
      ·rcases bt (decide ((((Bi p0 (Int.toNat k1)) : Nat) : Int) ≥ 48)) with h75 | h75
       ·rcases bt (decide ((((Bi p0 (Int.toNat k1)) : Nat) : Int) ≤ 57)) with h76 | h76
        ·exact RT hnt (nn 3 (sk 2 (pF :: nn 4 (sk 2 (pF :: pF :: nn 6 (pT :: pF :: .no :: sk 2 (pT :: .no :: sk 2 (pT :: .no :: [])))))))) [(57,pB false)] (an3 h57 (an3 ff (an2 h69 (an ff (an h69 (an4 ff (an2 h75 (an ff (an h75 (an ff (an3 h76 (an3 tt tv)))))))))))) (by kernel_rfl) (.cons rfl (.of_eq (by rw [h57,h69,h75,h76]; try rfl)) .nil)
        ·rcases bt ((((Bi p0 (Int.toNat k1)) : Nat) : Int) == 95) with h77 | h77
         ·exact RT hnt (nn 3 (sk 2 (pF :: nn 4 (sk 2 (pF :: pF :: nn 6 (pT :: pF :: nn 3 (pF :: .no :: sk 2 (pT :: .no :: [])))))))) [(57,pB false)] (an3 h57 (an3 ff (an2 h69 (an ff (an h69 (an4 ff (an2 h75 (an ff (an h75 (an ff (an3 h76 (an3 h77 tv)))))))))))) (by kernel_rfl) (.cons rfl (.of_eq (by rw [h57,h69,h75,h76,h77]; try rfl)) .nil)
         ·exact RT hnt (nn 3 (sk 2 (pF :: nn 4 (sk 2 (pF :: pF :: nn 6 (pT :: pF :: nn 3 (pF :: nn 3 (pF :: .no :: [])))))))) [(c8e1 p0 k1)] (an3 h57 (an3 ff (an2 h69 (an ff (an h69 (an4 ff (an2 h75 (an ff (an h75 (an ff (an3 h76 (an3 h77 tv)))))))))))) (by kernel_rfl) (.cons rfl (.of_eq (by rw [h57,h69,h75,h76,h77]; try rfl)) .nil)
       ·rcases bt ((((Bi p0 (Int.toNat k1)) : Nat) : Int) == 95) with h78 | h78
        ·exact RT hnt (nn 3 (sk 2 (pF :: nn 4 (sk 2 (pF :: pF :: nn 4 (sk 2 (pF :: pF :: nn 3 (pF :: .no :: sk 2 (pT :: .no :: []))))))))) [(57,pB false)] (an3 h57 (an3 ff (an2 h69 (an ff (an h69 (an4 ff (an2 h75 (an ff (an h75 (an4 ff (an3 h78 tv))))))))))) (by kernel_rfl) (.cons rfl (.of_eq (by rw [h57,h69,h75,h78]; try rfl)) .nil)
        ·exact RT hnt (nn 3 (sk 2 (pF :: nn 4 (sk 2 (pF :: pF :: nn 4 (sk 2 (pF :: pF :: nn 3 (pF :: nn 3 (pF :: .no :: []))))))))) [(c8e1 p0 k1)] (an3 h57 (an3 ff (an2 h69 (an ff (an h69 (an4 ff (an2 h75 (an ff (an h75 (an4 ff (an3 h78 tv))))))))))) (by kernel_rfl) (.cons rfl (.of_eq (by rw [h57,h69,h75,h78]; try rfl)) .nil)
    ·refine An hm ?_ ?_
     ·intro h79 hm
      refine Sq (RK hnt (.no :: []) [(2,pB false)] [] tv ?_)
      obtain rfl := sj hm
      exact DW.ret (Ak [] [] (pB false))
     ·intro h79 hm
      refine Sk ?_
      refine DW.done ?_
      show DW _ _ _ _ _
      refine RK hnt (nn 3 []) [(0,pS p0),(3,pI (w64 (k1 + 1)))] [] tv ?_
      exact jD () ⟨hlt1,hm⟩ (Conv.tp [(3,pI (w64 (k1 + 1)))] [] (by kernel_rfl) (.cons rfl (.of_eq (congrArg pI (Mu (lo := 0) (hi := ((p0.size : Nat) : Int)) (by omega) hk1 hlt1 (by omega)))) .nil) .nil)
   ·intro h55
    have hge1 : ¬ k1 < ((p0.size : Nat) : Int) := by have := of_decide_eq_false h55; omega
    have hm := he1 hge1
    unfold Aay at hm
    refine DW.exit ?_
    refine Al ?_
    refine Ar ?_
    refine Af ?_
    show DW _ _ _ _ _
    refine Sq (RK hnt (.no :: []) [(2,pB true)] [] tv ?_)
    obtain rfl := sj hm
    exact DW.ret (Ak [] [] (pB true))
 ·rcases bt (((p0.size : Nat) : Int) == 0) with h1 | h1
  ·replace hm := Bf h1 hm
   refine RK hnt (nn 4 (sk 3 (pT :: .no :: sk 3 (pT :: [])))) [(0,pS p0),(17,pB true)] [] (an4 h1 (an4 tt tv)) ?_
   exact jD true hm .refl
  ·replace hm := Bg h1 hm
   rcases bt (decide (((p0.size : Nat) : Int) > 32)) with h2 | h2
   ·replace hm := Bf h2 hm
    refine RK hnt (nn 7 (pF :: .no :: sk 3 (pT :: []))) [(0,pS p0),(17,pB true)] [] (an4 h1 (an4 h2 tv)) ?_
    exact jD true hm .refl
   ·replace hm := Bg h2 hm
    obtain ⟨g3,hm⟩ := go1 hm
    refine RK hnt (nn 7 (pF :: nn 4 (pF :: []))) [(0,pS p0),(17,pB ((((Bi p0 0) : Nat) : Int) == 45))] [] (an4 h1 (an2 h2 (an (nn0 0) (an (ltc g3) (an2 h2 tv))))) ?_
    exact jD ((((Bi p0 0) : Nat) : Int) == 45) hm .refl
abbrev o8 (ks : List Nat) (b : Bool) (RES : Bool) (sm : List Nat := []) : Orc := .call 30 ks b (pB RES) [] [] sm

abbrev Gj (p0 : Ac) (p1 : Int) := (p0.nodes.getD (Int.toNat p1) De)
abbrev c7e2 (p0 : Ac) (p1 : Int) : Nat × Obj := (1040,bx (pm (Bw (Gj p0 p1))))
abbrev c7e3 (p0 : Ac) : Nat × Obj := (1016,bx (pm (Am p0)))
abbrev c7e4 (p0 : Ac) (k1 : Int) := (p0.nodes.getD (Int.toNat k1) De)
theorem Aee (p0 : Ac) (p1 : Int) (RES : Bool) (hm : Ue p0 p1 = some RES) : Spec Try.prog 42 [.p (.agg (Am p0)),pI p1] [] (pB RES) [] [] := by
 unfold Ue at hm
 refine SO Try.func42 rfl rfl [(0,.p (.agg (Am p0))),(1,pI p1)] [] ?_
 intro cx hnt
 refine Sq (RK hnt (nn 2 []) [(1,pI p1),(2,rr 1016)] [(c7e3 p0)] tv ?_)
 obtain ⟨g1,hm⟩ := go1 hm
 refine Sq (RD hnt (nn 7 []) [] [(5,rr 1040)] [] [(c7e2 p0 p1)] (an g1.1 (an g1.2 tv)) ?_)
 refine Sq (Sq (DW.regJ (sl2 := [(1,pI p1),(2,rr 1016),(5,rr 1040),(40,pB (((((((Gj p0 p1).kind != 0) && ((Gj p0 p1).kind != 1)) || (decide ((Gj p0 p1).control < 0))) || (decide ((Gj p0 p1).control > 31))) || (decide ((Gj p0 p1).owner < 0))) || (decide ((Gj p0 p1).owner > 1048576))))]) (ob2 := [(c7e3 p0),(c7e2 p0 p1)]) ?_ ?_))
 ·rcases bt ((Gj p0 p1).kind != 0) with h2 | h2
  ·rcases bt ((Gj p0 p1).kind != 1) with h3 | h3
   ·exact RT hnt (nn 7 (pT :: .no :: sk 3 (pT :: .no :: sk 3 (pT :: .no :: sk 3 (pT :: .no :: sk 3 (pT :: [])))))) [(40,pB true)] (an4 h2 (an4 h3 (an6 tt (an6 tt tv)))) (by kernel_rfl) (.cons rfl (.of_eq (by rw [h2,h3]; try rfl)) .nil)
   ·rcases bt (decide ((Gj p0 p1).control < 0)) with h4 | h4
    ·exact RT hnt (nn 7 (pT :: nn 4 (pF :: .no :: sk 3 (pT :: .no :: sk 3 (pT :: .no :: sk 3 (pT :: [])))))) [(40,pB true)] (an4 h2 (an4 h3 (an4 h4 (an2 tt (an6 tt tv))))) (by kernel_rfl) (.cons rfl (.of_eq (by rw [h2,h3,h4]; try rfl)) .nil)
    ·rcases bt (decide ((Gj p0 p1).control > 31)) with h5 | h5
     ·exact RT hnt (nn 7 (pT :: nn 4 (pF :: nn 4 (pF :: .no :: sk 3 (pT :: .no :: sk 3 (pT :: [])))))) [(40,pB true)] (an4 h2 (an4 h3 (an4 h4 (an4 h5 (an4 tt tv))))) (by kernel_rfl) (.cons rfl (.of_eq (by rw [h2,h3,h4,h5]; try rfl)) .nil)
     ·rcases bt (decide ((Gj p0 p1).owner < 0)) with h6 | h6
      ·exact RT hnt (nn 7 (pT :: nn 4 (pF :: nn 4 (pF :: nn 4 (pF :: .no :: sk 3 (pT :: [])))))) [(40,pB true)] (an4 h2 (an4 h3 (an4 h4 (an4 h5 (an4 h6 tv))))) (by kernel_rfl) (.cons rfl (.of_eq (by rw [h2,h3,h4,h5,h6]; try rfl)) .nil)
      ·exact RT hnt (nn 7 (pT :: nn 4 (pF :: nn 4 (pF :: nn 4 (pF :: nn 4 (pF :: [])))))) [(40,pB (decide ((Gj p0 p1).owner > 1048576)))] (an4 h2 (an4 h3 (an4 h4 (an4 h5 (an4 h6 tv))))) (by kernel_rfl) (.cons rfl (.of_eq (by rw [h2,h3,h4,h5,h6]; try rfl)) .nil)
  ·rcases bt (decide ((Gj p0 p1).control < 0)) with h7 | h7
   ·exact RT hnt (nn 4 (sk 3 (pF :: nn 4 (pF :: .no :: sk 3 (pT :: .no :: sk 3 (pT :: .no :: sk 3 (pT :: []))))))) [(40,pB true)] (an4 h2 (an4 ff (an4 h7 (an2 tt (an6 tt tv))))) (by kernel_rfl) (.cons rfl (.of_eq (by rw [h2,h7]; try rfl)) .nil)
   ·rcases bt (decide ((Gj p0 p1).control > 31)) with h8 | h8
    ·exact RT hnt (nn 4 (sk 3 (pF :: nn 4 (pF :: nn 4 (pF :: .no :: sk 3 (pT :: .no :: sk 3 (pT :: []))))))) [(40,pB true)] (an4 h2 (an4 ff (an4 h7 (an4 h8 (an4 tt tv))))) (by kernel_rfl) (.cons rfl (.of_eq (by rw [h2,h7,h8]; try rfl)) .nil)
    ·rcases bt (decide ((Gj p0 p1).owner < 0)) with h9 | h9
     ·exact RT hnt (nn 4 (sk 3 (pF :: nn 4 (pF :: nn 4 (pF :: nn 4 (pF :: .no :: sk 3 (pT :: []))))))) [(40,pB true)] (an4 h2 (an4 ff (an4 h7 (an4 h8 (an4 h9 tv))))) (by kernel_rfl) (.cons rfl (.of_eq (by rw [h2,h7,h8,h9]; try rfl)) .nil)
     ·exact RT hnt (nn 4 (sk 3 (pF :: nn 4 (pF :: nn 4 (pF :: nn 4 (pF :: nn 4 (pF :: []))))))) [(40,pB (decide ((Gj p0 p1).owner > 1048576)))] (an4 h2 (an4 ff (an4 h7 (an4 h8 (an4 h9 tv))))) (by kernel_rfl) (.cons rfl (.of_eq (by rw [h2,h7,h8,h9]; try rfl)) .nil)
 ·refine An hm ?_ ?_
  ·intro h10 hm
   refine Sq (RK hnt (.no :: []) [(4,pB false)] [] tv ?_)
   obtain rfl := sj hm
   exact DW.ret (Ak [] [] (pB false))
  ·intro h10 hm
   refine Sk ?_
   refine Sq (Sq (RD hnt (nn 2 []) [40] [(42,pB (p1 == 0))] [] [] tv ?_))
   refine An hm ?_ ?_
   ·intro h11 hm
    refine Sq (DW.regJ (sl2 := [(4,pB (((((Gj p0 p1).id == 1) && ((Gj p0 p1).parent == 0)) && (Eg (Gj p0 p1).name ByteArray.empty)) && ((Gj p0 p1).kind == 0)))]) (ob2 := []) ?_ ?_)
    ·rcases bt ((Gj p0 p1).id == 1) with h12 | h12
     ·rcases bt ((Gj p0 p1).parent == 0) with h13 | h13
      ·rcases bt (Eg (Gj p0 p1).name ByteArray.empty) with h14 | h14
       ·exact RT hnt (nn 7 (pT :: nn 4 (pT :: nn 4 (pT :: .no :: [])))) [(4,pB ((Gj p0 p1).kind == 0))] (an4 h12 (an4 h13 (an4 h14 tv))) (by kernel_rfl) (.cons rfl (.of_eq (by rw [h12,h13,h14]; try rfl)) .nil)
       ·exact RT hnt (nn 7 (pT :: nn 4 (pT :: .no :: sk 3 (pF :: .no :: [])))) [(4,pB false)] (an4 h12 (an4 h13 (an4 h14 tv))) (by kernel_rfl) (.cons rfl (.of_eq (by rw [h12,h13,h14]; try rfl)) .nil)
      ·exact RT hnt (nn 7 (pT :: .no :: sk 3 (pF :: .no :: sk 3 (pF :: .no :: [])))) [(4,pB false)] (an4 h12 (an4 h13 (an4 ff tv))) (by kernel_rfl) (.cons rfl (.of_eq (by rw [h12,h13]; try rfl)) .nil)
     ·exact RT hnt (nn 4 (sk 3 (pF :: .no :: sk 3 (pF :: .no :: sk 3 (pF :: .no :: []))))) [(4,pB false)] (an4 h12 (an2 ff (an6 ff tv))) (by kernel_rfl) (.cons rfl (.of_eq (by rw [h12]; try rfl)) .nil)
    ·refine DW.ret ?_
     obtain rfl := sj hm
     exact Ak [] [] (pB (((((Gj p0 p1).id == 1) && ((Gj p0 p1).parent == 0)) && (Eg (Gj p0 p1).name ByteArray.empty)) && ((Gj p0 p1).kind == 0)))
   ·intro h11 hm
    refine Sk ?_
    obtain ⟨g15,hm⟩ := go1 hm
    refine Sq (Sq ?_)
    refine Jn (ι := Bool) (fun (y1 : Bool) => Ae [(1,pI p1),(2,rr 1016),(5,rr 1040),(76,pB y1)] [(c7e3 p0),(c7e2 p0 p1)]) (fun y1 => (Qi p0 p1) y1 = some RES) ?_ ?_
    ·intro y1 hm
     unfold Qi at hm
     refine An hm ?_ ?_
     ·intro h18 hm
      refine Sq (RK hnt (.no :: []) [(4,pB false)] [] tv ?_)
      obtain rfl := sj hm
      exact DW.ret (Ak [] [] (pB false))
     ·intro h18 hm
      refine Sk ?_
      refine Sq (RD hnt (.no :: []) [76] [(6,pB false)] [] [] tv ?_)
      refine Sq (Sq (RD hnt (.no :: []) [] [(7,pI 0)] [] [] tv ?_))
      refine Bk ?_
      obtain ⟨hc1,hm⟩ := go1 hm
      refine DW.forO (fun (k1 : Int) (s1 : Bool) => Ae [(1,pI p1),(2,rr 1016),(5,rr 1040),(6,pB s1),(7,pI k1)] [(c7e3 p0),(c7e2 p0 p1)]) (lo := 0) (hi := p1) hm Conv.eqK ?_
      intro k1 s1 n1 hk1 hs1 he1
      refine Sq (Sq (RD hnt (nn 3 []) [] [(79,pB (decide (k1 < p1)))] [] [] tv ?_))
      refine Dr (decide (k1 < p1)) ?_ ?_
      ·intro h32
       have hlt1 : k1 < p1 := by have := of_decide_eq_true h32; omega
       have hm := hs1 hlt1
       unfold Yd at hm
       refine Sk ?_
       refine Sq (Bk ?_)
       refine Sq ?_
       refine Jn (ι := Bool) (fun (y5 : Bool) => Ae [(1,pI p1),(2,rr 1016),(5,rr 1040),(6,pB y5),(7,pI k1)] [(c7e3 p0),(c7e2 p0 p1)]) (fun y5 => (Oe p0 p1 k1 n1) y5 = some RES) ?_ ?_
       ·intro y5 hm
        unfold Oe at hm
        obtain ⟨g35,hm⟩ := go1 hm
        refine Sq ?_
        refine Jn (ι := Bool) (fun (y6 : Bool) => Ae [(1,pI p1),(2,rr 1016),(5,rr 1040),(6,pB y5),(7,pI k1),(113,pB y6)] [(c7e3 p0),(c7e2 p0 p1)]) (fun y6 => (Oi n1 y5) y6 = some RES) ?_ ?_
        ·intro y6 hm
         unfold Oi at hm
         refine An hm ?_ ?_
         ·intro h38 hm
          refine Sq (RK hnt (.no :: []) [(4,pB false)] [] tv ?_)
          obtain rfl := sj hm
          exact DW.ret (Ak [] [] (pB false))
         ·intro h38 hm
          refine Sk ?_
          refine DW.done ?_
          show DW _ _ _ _ _
          refine RD hnt (nn 3 []) [113] [(7,pI (w64 (k1 + 1)))] [] [] tv ?_
          exact jD y5 ⟨hlt1,hm⟩ (Conv.tp [(7,pI (w64 (k1 + 1)))] [] (by kernel_rfl) (.cons rfl (.of_eq (congrArg pI (Mu (lo := 0) (hi := p1) (by omega) hk1 hlt1 (by omega)))) .nil) .nil)
        ·rcases bt ((c7e4 p0 k1).parent == (Gj p0 p1).parent) with h36 | h36
         ·replace hm := Bf h36 hm
          obtain ⟨g37,hm⟩ := go1 hm
          refine RD hnt (nn 19 (pT :: [])) [] [(113,pB (Eg (c7e4 p0 k1).name (Gj p0 p1).name))] [] [] (an g35.1 (an g35.2 (an4 h36 (an g37.1 (an g37.2 (an6 h36 tv)))))) ?_
          exact jD (Eg (c7e4 p0 k1).name (Gj p0 p1).name) hm Conv.eqK
         ·replace hm := Bg h36 hm
          refine RD hnt (nn 10 (sk 9 (pF :: []))) [] [(113,pB false)] [] [] (an g35.1 (an g35.2 (an4 h36 (an6 h36 tv)))) ?_
          exact jD false hm Conv.eqK
       ·rcases bt s1 with h33 | h33
        ·replace hm := Bf h33 hm
         refine RD hnt (nn 2 (sk 9 (pT :: .no :: []))) [79] [(6,pB true)] [] [] (an4 h33 (an6 h33 tv)) ?_
         exact jD true hm Conv.eqK
        ·replace hm := Bg h33 hm
         obtain ⟨g34,hm⟩ := go1 hm
         refine RD hnt (nn 11 (pF :: .no :: [])) [79] [(6,pB ((c7e4 p0 k1).id == (Gj p0 p1).parent))] [] [] (an4 h33 (an g34.1 (an g34.2 (an6 h33 tv)))) ?_
         exact jD ((c7e4 p0 k1).id == (Gj p0 p1).parent) hm Conv.eqK
      ·intro h32
       have hge1 : ¬ k1 < p1 := by have := of_decide_eq_false h32; omega
       have hm := he1 hge1
       unfold AbW at hm
       refine DW.exit ?_
       refine Al ?_
       refine Ar ?_
       refine Af ?_
       show DW _ _ _ _ _
       refine Sq (RK hnt (nn 2 []) [(4,pB s1)] [] tv ?_)
       obtain rfl := sj hm
       exact DW.ret (Ak [] [] (pB s1))
    ·rcases bt (decide ((Gj p0 p1).id ≤ (p0.nodes.getD (Int.toNat (w64 (p1 - 1))) De).id)) with h16 | h16
     ·replace hm := Bf h16 hm
      refine RD hnt (nn 11 (sk 4 (pT :: []))) [42] [(76,pB true)] [] [] (an g15.1 (an g15.2 (an5 h16 tv))) ?_
      exact jD true hm Conv.eqK
     ·replace hm := Bg h16 hm
      obtain ⟨r17,hr17,hm⟩ := bo hm
      refine RD hnt (nn 13 (o8 [] true r17 :: .no :: pF :: [])) [42] [(76,pB (!r17))] [] [] (an g15.1 (an g15.2 (an3 h16 (an (Yx (Gj p0 p1).name r17 hr17) (an2 h16 tv))))) ?_
      exact jD (!r17) hm Conv.eqK
abbrev o7 (ks : List Nat) (b : Bool) (RES : Bool) (sm : List Nat := []) : Orc := .call 42 ks b (pB RES) [] [] sm

theorem AbQ (p0 : Ac) (p1 : Int) (RES : List Int) (hm : Vo p0 p1 = some RES) : Spec Try.prog 43 [.p (.agg (Am p0)),pI p1] [] (ow 0 RES.length) [] [roI RES] := by
 unfold Vo at hm
 refine SO Try.func43 rfl rfl [(0,.p (.agg (Am p0))),(1,pI p1)] [] ?_
 intro cx hnt
 refine Sq (RK hnt (nn 2 []) [(1,pI p1),(2,rr 1016)] [(1016,bx (pm (Am p0)))] tv ?_)
 refine Sq (RD hnt (.no :: []) [] [(5,.p (.sl .nil 0 0 (fun _ => [])))] [] [] tv ?_)
 refine Sq (Sq (RD hnt (nn 5 []) [] [(6,pI (w64 (((p0.nodes.length : Nat) : Int) - 1)))] [] [] tv ?_))
 refine Bk ?_
 refine DW.whileO (fun (s1 : (List Int) × Int × Int) => Ae [(1,pI s1.2.1),(2,rr 1016),(5,ow 1208 s1.1.length),(6,pI s1.2.2)] [(1016,bx (pm (Am p0))),(1208,ob0 (roI s1.1))]) hm (Conv.ads [(.s 5,1208,1,elems Bb 0 [])]) ?_
 intro s1 n1 hm
 unfold AaW at hm
 refine Sq (Sq (RD hnt (nn 2 []) [] [(12,pB (decide (s1.2.2 ≥ 0)))] [] [] tv ?_))
 refine An hm ?_ ?_
 ·intro h5 hm
  refine Sk ?_
  refine Sq ?_
  refine Jn (ι := (List Int) × Int) (fun (y2 : (List Int) × Int) => Ae [(1,pI y2.2),(2,rr 1016),(5,ow 1208 y2.1.length),(6,pI s1.2.2)] [(1016,bx (pm (Am p0))),(1208,ob0 (roI y2.1))]) (fun y2 => (Rg s1 n1) y2 = some RES) ?_ ?_
  ·intro y2 hm
   unfold Rg at hm
   refine RD hnt (nn 3 []) [] [(6,pI (w64 (s1.2.2 - 1)))] [] [] tv ?_
   exact jD (y2.1,y2.2,(w64 (s1.2.2 - 1))) hm Conv.eqK
  ·refine Bk ?_
   obtain ⟨g6,hm⟩ := go1 hm
   refine Sq (RD hnt (nn 8 []) [12] [(22,pB ((p0.nodes.getD (Int.toNat s1.2.2) De).id == s1.2.1))] [] [] (an g6.1 (an g6.2 tv)) ?_)
   refine An hm ?_ ?_
   ·intro h7 hm
    obtain ⟨g8,hm⟩ := go1 hm
    refine Sq (RN hnt (nn 5 []) [(2,rr 1016),(5,ow 1208 (s1.1 ++ [s1.2.1]).length),(6,pI s1.2.2)] [(1016,bx (pm (Am p0))),(1208,ob0 (roI (s1.1 ++ [s1.2.1])))] [(5,ow 1208 (s1.1.length + 1))] [(1208,.row 1 (s1.1.length + 1) (Et s1.1.length (elI s1.1) (cut 1 [vi s1.2.1])))] (an (by omega : (s1.1.length + 1) * 8 ≤ 140737488355328) tv) (by kernel_rfl) (.cons rfl (MLe.ownLen (enc := Bb) (d := 0) (f := (Et s1.1.length (elI s1.1) (cut 1 [vi s1.2.1]))) (RowIs.cat RowIs.elems (RowIs.lit (enc := Bb) (d := 0) (n := 1) (f := (cut 1 [vi s1.2.1])) [s1.2.1] rfl (fun | 0,_ => rfl | n + 1,h => absurd h (by omega))))) .nil) (.cons rfl (BLe.typed (RowIs.cat RowIs.elems (RowIs.lit (enc := Bb) (d := 0) (n := 1) (f := (cut 1 [vi s1.2.1])) [s1.2.1] rfl (fun | 0,_ => rfl | n + 1,h => absurd h (by omega))))) .nil) ?_)
    obtain ⟨g9,hm⟩ := go1 hm
    refine RD hnt (nn 7 []) [] [(1,pI (p0.nodes.getD (Int.toNat s1.2.2) De).parent)] [] [] (an g9.1 (an g9.2 tv)) ?_
    exact bD ((s1.1 ++ [s1.2.1]),(p0.nodes.getD (Int.toNat s1.2.2) De).parent) hm Conv.eqK
   ·intro h7 hm
    refine Sk ?_
    exact bD (s1.1,s1.2.1) hm Conv.t0
 ·intro h5 hm
  refine DW.exit ?_
  refine Al ?_
  refine Ar ?_
  refine Af ?_
  show DW _ _ _ _ _
  refine Sq (RK hnt (nn 2 []) [(4,ow 1208 s1.1.length)] [(1208,ob0 (roI s1.1))] tv ?_)
  obtain rfl := sj hm
  exact DW.ret (Ak [roI s1.1] [1208] (ow 0 s1.1.length))
abbrev o9 (ks : List Nat) (b : Bool) (RES : List Int) (sm : List Nat := []) : Orc := .call 43 ks b (ow 0 RES.length) [] [roI RES] sm

abbrev c6e1 (p0 : Ac) : Nat × MV := (3,pI ((p0.nodes.length : Nat) : Int))
theorem Mr (p0 : Ac) (RES : Bool) (hm : Kh p0 = some RES) : Spec Try.prog 29 [.p (.agg (Am p0))] [] (pB RES) [] [] := by
 unfold Kh at hm
 refine SO Try.func29 rfl rfl [(0,.p (.agg (Am p0)))] [] ?_
 intro cx hnt
 refine Sq (RK hnt (nn 2 []) [(1,rr 1008)] [(1008,bx (pm (Am p0)))] tv ?_)
 refine Sq (RD hnt (nn 4 []) [] [(c6e1 p0)] [] [] tv ?_)
 refine Sq (Sq (DW.regJ (sl2 := [(1,rr 1008),(c6e1 p0),(14,pB ((decide (((p0.nodes.length : Nat) : Int) < 1)) || (decide (((p0.nodes.length : Nat) : Int) > 64))))]) (ob2 := [(1008,bx (pm (Am p0)))]) ?_ ?_))
 ·rcases bt (decide (((p0.nodes.length : Nat) : Int) < 1)) with h1 | h1
  ·exact RT hnt (nn 3 (sk 2 (pT :: []))) [(14,pB true)] (an3 h1 tv) (by kernel_rfl) (.cons rfl (.of_eq (by rw [h1]; try rfl)) .nil)
  ·exact RT hnt (nn 5 (pF :: [])) [(14,pB (decide (((p0.nodes.length : Nat) : Int) > 64)))] (an3 h1 tv) (by kernel_rfl) (.cons rfl (.of_eq (by rw [h1]; try rfl)) .nil)
 ·refine An hm ?_ ?_
  ·intro h2 hm
   refine Sq (RK hnt (.no :: []) [(2,pB false)] [] tv ?_)
   obtain rfl := sj hm
   exact DW.ret (Ak [] [] (pB false))
  ·intro h2 hm
   refine Sk ?_
   refine Sq (Sq (RD hnt (.no :: []) [14] [(4,pI 0)] [] [] tv ?_))
   refine Bk ?_
   obtain ⟨hc1,hm⟩ := go1 hm
   refine DW.rangeO (fun (k1 : Nat) (s1 : Unit) => Ae [(1,rr 1008),(c6e1 p0),(4,pI ((k1 : Nat) : Int))] [(1008,bx (pm (Am p0)))]) De hm Conv.eqK ?_
   intro k1 s1 n1 hk1 hs1 he1
   refine Sq (Sq (RD hnt (nn 3 []) [] [(17,pB (decide (((k1 : Nat) : Int) < ((p0.nodes.length : Nat) : Int))))] [] [] tv ?_))
   refine Dr (decide (((k1 : Nat) : Int) < ((p0.nodes.length : Nat) : Int))) ?_ ?_
   ·intro h32
    have hlt1 : k1 < p0.nodes.length := by have := of_decide_eq_true h32; omega
    have hm := hs1 hlt1
    unfold Vv at hm
    refine Sk ?_
    refine Sq (Bk ?_)
    obtain ⟨r33,hr33,hm⟩ := bo hm
    refine Sq (RD hnt (nn 2 (o7 [] true r33 :: .no :: [])) [17] [(23,pB (!r33))] [] [] (an (Aee p0 ((k1 : Nat) : Int) r33 hr33) tv) ?_)
    refine An hm ?_ ?_
    ·intro h34 hm
     refine Sq (RK hnt (.no :: []) [(2,pB false)] [] tv ?_)
     obtain rfl := sj hm
     exact DW.ret (Ak [] [] (pB false))
    ·intro h34 hm
     refine Sk ?_
     refine DW.done ?_
     show DW _ _ _ _ _
     refine RD hnt (nn 3 []) [23] [(4,pI (w64 (((k1 : Nat) : Int) + 1)))] [] [] tv ?_
     exact jD () ⟨hlt1,hm⟩ (Conv.tp [(4,pI (w64 (((k1 : Nat) : Int) + 1)))] [] (by kernel_rfl) (.cons rfl (.of_eq (congrArg pI (Cs hlt1 hc1))) .nil) .nil)
   ·intro h32
    have hge1 : ¬ k1 < p0.nodes.length := by have := of_decide_eq_false h32; omega
    have hm := he1 hge1
    unfold Vx at hm
    refine DW.exit ?_
    refine Al ?_
    refine Ar ?_
    refine Af ?_
    show DW _ _ _ _ _
    refine Sq (Sq (RD hnt (.no :: []) [4,17] [(5,pI 0)] [] [] tv ?_))
    refine Bk ?_
    obtain ⟨hc4,hm⟩ := go1 hm
    refine DW.rangeO (fun (k4 : Nat) (s4 : Unit) => Ae [(1,rr 1008),(c6e1 p0),(5,pI ((k4 : Nat) : Int))] [(1008,bx (pm (Am p0)))]) De hm Conv.eqK ?_
    intro k4 s4 n4 hk4 hs4 he4
    refine Sq (Sq (RD hnt (nn 3 []) [] [(26,pB (decide (((k4 : Nat) : Int) < ((p0.nodes.length : Nat) : Int))))] [] [] tv ?_))
    refine Dr (decide (((k4 : Nat) : Int) < ((p0.nodes.length : Nat) : Int))) ?_ ?_
    ·intro h49
     have hlt4 : k4 < p0.nodes.length := by have := of_decide_eq_true h49; omega
     have hm := hs4 hlt4
     unfold Wi at hm
     refine Sk ?_
     refine Sq (Bk ?_)
     obtain ⟨r50,hr50,hm⟩ := bo hm
     refine Sq (RD hnt (nn 7 (o9 [] true r50 :: nn 2 [])) [26] [(38,pB (decide (((r50.length : Nat) : Int) > 9)))] [] [] (an (nn0 k4) (an (ltc hlt4) (an (AbQ p0 (p0.nodes.getD k4 (default : Ai)).id r50 hr50) tv))) ?_)
     refine An hm ?_ ?_
     ·intro h51 hm
      refine Sq (RK hnt (.no :: []) [(2,pB false)] [] tv ?_)
      obtain rfl := sj hm
      exact DW.ret (Ak [] [] (pB false))
     ·intro h51 hm
      refine Sk ?_
      refine DW.done ?_
      show DW _ _ _ _ _
      refine RD hnt (nn 3 []) [38] [(5,pI (w64 (((k4 : Nat) : Int) + 1)))] [] [] tv ?_
      exact jD () ⟨hlt4,hm⟩ (Conv.tp [(5,pI (w64 (((k4 : Nat) : Int) + 1)))] [] (by kernel_rfl) (.cons rfl (.of_eq (congrArg pI (Cs hlt4 hc4))) .nil) .nil)
    ·intro h49
     have hge4 : ¬ k4 < p0.nodes.length := by have := of_decide_eq_false h49; omega
     have hm := he4 hge4
     unfold Vr at hm
     refine DW.exit ?_
     refine Al ?_
     refine Ar ?_
     refine Af ?_
     show DW _ _ _ _ _
     obtain ⟨g52,hm⟩ := go1 hm
     refine Sq ?_
     refine Jn (ι := Bool) (fun (y7 : Bool) => Ae [(2,pB y7)] []) (fun y7 => Pk y7 = some RES) ?_ ?_
     ·intro y7 hm
      unfold Pk at hm
      obtain rfl := sj hm
      exact DW.ret (Ak [] [] (pB y7))
     ·rcases bt (decide (p0.next > (p0.nodes.getD (Int.toNat (w64 (((p0.nodes.length : Nat) : Int) - 1))) De).id)) with h53 | h53
      ·replace hm := Bf h53 hm
       refine RK hnt (nn 14 (pT :: .no :: [])) [(2,pB (decide (p0.next ≤ 2147483648)))] [] (an g52.1 (an g52.2 (an4 h53 tv))) ?_
       exact jD (decide (p0.next ≤ 2147483648)) hm .refl
      ·replace hm := Bg h53 hm
       refine RK hnt (nn 11 (sk 3 (pF :: .no :: []))) [(2,pB false)] [] (an g52.1 (an g52.2 (an4 h53 tv))) ?_
       exact jD false hm .refl
abbrev o6 (ks : List Nat) (b : Bool) (RES : Bool) (sm : List Nat := []) : Orc := .call 29 ks b (pB RES) [] [] sm

theorem Aed (p0 : Ac) (p1 : Int) (RES : Ai × Bool) (hm : Ud p0 p1 = some RES) : Spec Try.prog 44 [.p (.agg (Am p0)),pI p1] [] (.p (.tup [.agg (Bw RES.1),vb RES.2])) [] [] := by
 unfold Ud at hm
 refine SO Try.func44 rfl rfl [(0,.p (.agg (Am p0))),(1,pI p1)] [] ?_
 intro cx hnt
 refine Sq (RK hnt (nn 3 []) [(1,pI p1),(2,rr 1016),(4,rr 1032)] [(1016,bx (pm (Am p0))),(1032,bx [pI 0,pI 0,pS ByteArray.empty,pI 0,pI 0,pI 0])] tv ?_)
 obtain ⟨r1,hr1,hm⟩ := bo hm
 refine Sq (Sq (RD hnt (.no :: o6 [] true r1 :: .no :: []) [] [(9,pB (!r1))] [] [] (an (Mr p0 r1 hr1) tv) ?_))
 refine An hm ?_ ?_
 ·intro h2 hm
  refine Sq (RD hnt (nn 3 []) [1,2,9] [(5,pB false)] [1016] [] tv ?_)
  obtain rfl := sj hm
  exact DW.ret (Ak [] [] (.p (.tup [.agg [vi 0,vi 0,vs ByteArray.empty,vi 0,vi 0,vi 0],vb false])))
 ·intro h2 hm
  refine Sk ?_
  refine Sq (Sq (RD hnt (.no :: []) [9] [(6,pI 0)] [] [] tv ?_))
  refine Bk ?_
  obtain ⟨hc1,hm⟩ := go1 hm
  refine DW.rangeO (fun (k1 : Nat) (s1 : Unit) => Ae [(1,pI p1),(2,rr 1016),(4,rr 1032),(6,pI ((k1 : Nat) : Int))] [(1016,bx (pm (Am p0))),(1032,bx [pI 0,pI 0,pS ByteArray.empty,pI 0,pI 0,pI 0])]) De hm Conv.eqK ?_
  intro k1 s1 n1 hk1 hs1 he1
  refine Sq (Sq (RD hnt (nn 5 []) [] [(15,pB (decide (((k1 : Nat) : Int) < ((p0.nodes.length : Nat) : Int))))] [] [] tv ?_))
  refine Dr (decide (((k1 : Nat) : Int) < ((p0.nodes.length : Nat) : Int))) ?_ ?_
  ·intro h11
   have hlt1 : k1 < p0.nodes.length := by have := of_decide_eq_true h11; omega
   have hm := hs1 hlt1
   unfold AbV at hm
   refine Sk ?_
   refine Sq (Bk ?_)
   refine Sq (RD hnt (nn 8 []) [15] [(25,pB ((p0.nodes.getD k1 (default : Ai)).id == p1))] [] [] (an (nn0 k1) (an (ltc hlt1) tv)) ?_)
   refine An hm ?_ ?_
   ·intro h12 hm
    refine Sq (RK hnt (nn 7 []) [(4,rr 1032),(5,pB true)] [(1032,bx (pm (Bw (p0.nodes.getD k1 (default : Ai)))))] (an (nn0 k1) (an (ltc hlt1) tv)) ?_)
    obtain rfl := sj hm
    exact DW.ret (Ak [] [] (.p (.tup [.agg (Bw (p0.nodes.getD k1 (default : Ai))),vb true])))
   ·intro h12 hm
    refine Sk ?_
    refine DW.done ?_
    show DW _ _ _ _ _
    refine RD hnt (nn 3 []) [25] [(6,pI (w64 (((k1 : Nat) : Int) + 1)))] [] [] tv ?_
    exact jD () ⟨hlt1,hm⟩ (Conv.tp [(6,pI (w64 (((k1 : Nat) : Int) + 1)))] [] (by kernel_rfl) (.cons rfl (.of_eq (congrArg pI (Cs hlt1 hc1))) .nil) .nil)
  ·intro h11
   have hge1 : ¬ k1 < p0.nodes.length := by have := of_decide_eq_false h11; omega
   have hm := he1 hge1
   unfold Acb at hm
   refine DW.exit ?_
   refine Al ?_
   refine Ar ?_
   refine Af ?_
   show DW _ _ _ _ _
   refine Sq (RD hnt (nn 3 []) [1,2,6,15] [(5,pB false)] [1016] [] tv ?_)
   obtain rfl := sj hm
   exact DW.ret (Ak [] [] (.p (.tup [.agg [vi 0,vi 0,vs ByteArray.empty,vi 0,vi 0,vi 0],vb false])))
abbrev o11 (ks : List Nat) (b : Bool) (RES : Ai × Bool) (sm : List Nat := []) : Orc := .call 44 ks b (.p (.tup [.agg (Bw RES.1),vb RES.2])) [] [] sm

theorem So (p0 : Ac) (p1 : Int) (RES : Bool) (hm : Oz p0 p1 = some RES) : Spec Try.prog 31 [.p (.agg (Am p0)),pI p1] [] (pB RES) [] [] := by
 unfold Oz at hm
 refine SO Try.func31 rfl rfl [(0,.p (.agg (Am p0))),(1,pI p1)] [] ?_
 intro cx hnt
 refine Sq (RK hnt (nn 2 []) [(1,pI p1),(2,rr 1016)] [(1016,bx (pm (Am p0)))] tv ?_)
 obtain ⟨r1,hr1,hm⟩ := bo hm
 refine Sq (RK hnt (nn 2 (o11 [] true r1 :: nn 6 [])) [(6,pB r1.2)] [] (an (Aed p0 p1 r1 hr1) tv) ?_)
 refine Sq (RK hnt (nn 2 []) [(4,pB r1.2)] [] tv ?_)
 obtain rfl := sj hm
 exact DW.ret (Ak [] [] (pB r1.2))
abbrev o10 (ks : List Nat) (b : Bool) (RES : Bool) (sm : List Nat := []) : Orc := .call 31 ks b (pB RES) [] [] sm

theorem AaM (p0 : Ac) (p1 : Int) (RES : List Int) (hm : Mg p0 p1 = some RES) : Spec Try.prog 45 [.p (.agg (Am p0)),pI p1] [] (ow 0 RES.length) [] [roI RES] := by
 unfold Mg at hm
 refine SO Try.func45 rfl rfl [(0,.p (.agg (Am p0))),(1,pI p1)] [] ?_
 intro cx hnt
 refine Sq (RK hnt (nn 2 []) [(1,pI p1),(2,rr 1016)] [(1016,bx (pm (Am p0)))] tv ?_)
 obtain ⟨r1,hr1,hm⟩ := bo hm
 refine Sq (Sq (RD hnt (nn 2 (o10 [] true r1 :: .no :: [])) [] [(8,pB (!r1))] [] [] (an (So p0 p1 r1 hr1) tv) ?_))
 refine An hm ?_ ?_
 ·intro h2 hm
  refine Sq (RK hnt (.no :: []) [(4,.p (.sl .nil 0 0 (fun _ => [])))] [] tv ?_)
  refine DW.cv [] [(4,ow 100000 0)] [] [(100000,ob0 (roI []))] (Conv.ads [(.s 4,100000,1,elems Bb 0 [])]) ?_
  obtain rfl := sj hm
  exact DW.ret (Ak [roI []] [100000] (ow 0 0))
 ·intro h2 hm
  refine Sk ?_
  obtain ⟨r3,hr3,hm⟩ := bo hm
  refine Sq (RK hnt (nn 2 (o9 [] true r3 :: .no :: [])) [(4,ow 1088 r3.length)] [(1088,ob0 (roI r3))] (an (AbQ p0 p1 r3 hr3) tv) ?_)
  obtain rfl := sj hm
  exact DW.ret (Ak [roI r3] [1088] (ow 0 r3.length))
abbrev o13 (ks : List Nat) (b : Bool) (RES : List Int) (sm : List Nat := []) : Orc := .call 45 ks b (ow 0 RES.length) [] [roI RES] sm

theorem Td (p0 : Ac) (p1 : Int) (RES : Int) (hm : Sc p0 p1 = some RES) : Spec Try.prog 32 [.p (.agg (Am p0)),pI p1] [] (pI RES) [] [] := by
 unfold Sc at hm
 refine SO Try.func32 rfl rfl [(0,.p (.agg (Am p0))),(1,pI p1)] [] ?_
 intro cx hnt
 refine Sq (RK hnt (nn 2 []) [(1,pI p1),(2,rr 1016)] [(1016,bx (pm (Am p0)))] tv ?_)
 obtain ⟨r1,hr1,hm⟩ := bo hm
 refine Sq (RK hnt (nn 2 (o13 [] true r1 :: nn 3 [])) [(4,pI (w64 (((r1.length : Nat) : Int) - 1)))] [] (an (AaM p0 p1 r1 hr1) tv) ?_)
 obtain rfl := sj hm
 exact DW.ret (Ak [] [] (pI (w64 (((r1.length : Nat) : Int) - 1))))
abbrev o12 (ks : List Nat) (b : Bool) (RES : Int) (sm : List Nat := []) : Orc := .call 32 ks b (pI RES) [] [] sm

theorem Aep (p0 : Ac) (RES : Ac) (hm : Tu p0 = some RES) : Spec Try.prog 33 [.p (.agg (Am p0))] [] (.agg [ow 0 RES.nodes.length,pI RES.next]) [] [Cq RES.nodes] := by
 unfold Tu at hm
 refine SO Try.func33 rfl rfl [(0,.p (.agg (Am p0)))] [] ?_
 intro cx hnt
 refine Sq (RK hnt (nn 2 []) [(1,rr 1008),(2,rr 1016)] [(1008,bx (pm (Am p0))),(1016,bx [.p (.sl .nil 0 0 (fun _ => [])),pI 0])] tv ?_)
 obtain ⟨g1,hm⟩ := go1 hm
 refine Sq (RN hnt (nn 7 []) [(2,rr 1016)] [(1016,bx [ow 1040 p0.nodes.length,pI p0.next]),(1040,ob0 (Cq p0.nodes))] [] [(1040,.row 6 p0.nodes.length (Ub p0.nodes))] (an (by omega : p0.nodes.length * 56 ≤ 140737488355328) tv) (by kernel_rfl) .nil (.cons rfl (BLe.typed RowIs.elems) .nil) ?_)
 obtain rfl := sj hm
 exact DW.ret (Ak [Cq p0.nodes] [1040] (.agg [ow 0 p0.nodes.length,pI p0.next]))
abbrev o14 (ks : List Nat) (b : Bool) (RES : Ac) (sm : List Nat := []) : Orc := .call 33 ks b (.agg [ow 0 RES.nodes.length,pI RES.next]) [] [Cq RES.nodes] sm

abbrev c5e1 (p0 : Ac) (p1 : Int) (p2 : ByteArray) := ({ id := p0.next,parent := p1,name := p2,control := 0,kind := 0,owner := 0 } : Ai)
abbrev c5e2 : Nat × Obj := (1048,bx [.p (.sl .nil 0 0 (fun _ => [])),pI 0])
abbrev c5e3 (p0 : Ac) : Nat × Obj := (1024,bx (pm (Am p0)))
abbrev c5e4 : Nat × Obj := (1048,bx [ow 100000 0,pI 0])
theorem Wc (p0 : Ac) (p1 : Int) (p2 : ByteArray) (RES : Ac × Int × Int) (hm : Nj p0 p1 p2 = some RES) : Spec Try.prog 16 [.p (.agg (Am p0)),pI p1,pS p2] [] (.tup [.agg [ow 0 RES.1.nodes.length,pI RES.1.next],pI RES.2.1,pI RES.2.2]) [] [Cq RES.1.nodes] := by
 unfold Nj at hm
 refine SO Try.func16 rfl rfl [(0,.p (.agg (Am p0))),(1,pI p1),(2,pS p2)] [] ?_
 intro cx hnt
 refine Sq (RD hnt (nn 4 []) [0] [(3,rr 1024),(6,rr 1048)] [] [(c5e3 p0),(c5e2)] tv ?_)
 obtain ⟨r1,hr1,hm⟩ := bo hm
 refine Sq (Sq ?_)
 refine Jn (ι := Bool) (fun (y1 : Bool) => Ae [(1,pI p1),(2,pS p2),(3,rr 1024),(6,rr 1048),(18,pB y1)] [(c5e3 p0),(c5e2)]) (fun y1 => (Sf p0 p1 p2) y1 = some RES) ?_ ?_
 ·intro y1 hm
  unfold Sf at hm
  refine An hm ?_ ?_
  ·intro h4 hm
   refine Sq (RD hnt (nn 4 []) [1,2,3,18] [(7,pI 0),(8,pI 1)] [1024] [] tv ?_)
   refine DW.cv [] [] [] [(c5e4),(100000,ob0 (Cq []))] (Conv.ads [(.o 1048 0,100000,6,elems Bw De [])]) ?_
   obtain rfl := sj hm
   exact DW.ret (Ak [Cq []] [100000] (.tup [.agg [ow 0 0,pI 0],pI 0,pI 1]))
  ·intro h4 hm
   refine Sk ?_
   obtain ⟨r5,hr5,hm⟩ := bo hm
   refine Sq (Sq (RD hnt (nn 2 (o10 [] true r5 :: .no :: [])) [18] [(23,pB (!r5))] [] [] (an (So p0 p1 r5 hr5) tv) ?_))
   refine An hm ?_ ?_
   ·intro h6 hm
    refine Sq (RD hnt (nn 4 []) [1,2,3,23] [(7,pI 0),(8,pI 4)] [1024] [] tv ?_)
    refine DW.cv [] [] [] [(c5e4),(100000,ob0 (Cq []))] (Conv.ads [(.o 1048 0,100000,6,elems Bw De [])]) ?_
    obtain rfl := sj hm
    exact DW.ret (Ak [Cq []] [100000] (.tup [.agg [ow 0 0,pI 0],pI 0,pI 4]))
   ·intro h6 hm
    refine Sk ?_
    refine Sq (Sq (RD hnt (.no :: []) [23] [(9,pI 0)] [] [] tv ?_))
    refine Bk ?_
    obtain ⟨hc1,hm⟩ := go1 hm
    refine DW.rangeO (fun (k1 : Nat) (s1 : Unit) => Ae [(1,pI p1),(2,pS p2),(3,rr 1024),(6,rr 1048),(9,pI ((k1 : Nat) : Int))] [(c5e3 p0),(c5e2)]) De hm Conv.eqK ?_
    intro k1 s1 n1 hk1 hs1 he1
    refine Sq (Sq (RD hnt (nn 5 []) [] [(29,pB (decide (((k1 : Nat) : Int) < ((p0.nodes.length : Nat) : Int))))] [] [] tv ?_))
    refine Dr (decide (((k1 : Nat) : Int) < ((p0.nodes.length : Nat) : Int))) ?_ ?_
    ·intro h29
     have hlt1 : k1 < p0.nodes.length := by have := of_decide_eq_true h29; omega
     have hm := hs1 hlt1
     unfold Zx at hm
     refine Sk ?_
     refine Sq (Bk ?_)
     refine Sq (DW.regJ (sl2 := [(1,pI p1),(2,pS p2),(3,rr 1024),(6,rr 1048),(9,pI ((k1 : Nat) : Int)),(49,pB (((p0.nodes.getD k1 (default : Ai)).parent == p1) && (Eg (p0.nodes.getD k1 (default : Ai)).name p2)))]) (ob2 := [(c5e3 p0),(c5e2)]) ?_ ?_)
     ·rcases bt ((p0.nodes.getD k1 (default : Ai)).parent == p1) with h30 | h30
      ·exact RT hnt (nn 17 (pT :: [])) [(49,pB (Eg (p0.nodes.getD k1 (default : Ai)).name p2))] (an (nn0 k1) (an (ltc hlt1) (an4 h30 (an (nn0 k1) (an (ltc hlt1) (an5 h30 tv)))))) (by kernel_rfl) (.cons rfl (.of_eq (by rw [h30]; try rfl)) .nil)
      ·exact RT hnt (nn 9 (sk 8 (pF :: []))) [(49,pB false)] (an (nn0 k1) (an (ltc hlt1) (an3 h30 (an6 h30 tv)))) (by kernel_rfl) (.cons rfl (.of_eq (by rw [h30]; try rfl)) .nil)
     ·refine An hm ?_ ?_
      ·intro h31 hm
       refine Sq (RD hnt (nn 4 []) [1,2,3,9,49] [(7,pI 0),(8,pI 5)] [1024] [] tv ?_)
       refine DW.cv [] [] [] [(c5e4),(100000,ob0 (Cq []))] (Conv.ads [(.o 1048 0,100000,6,elems Bw De [])]) ?_
       obtain rfl := sj hm
       exact DW.ret (Ak [Cq []] [100000] (.tup [.agg [ow 0 0,pI 0],pI 0,pI 5]))
      ·intro h31 hm
       refine Sk ?_
       refine DW.done ?_
       show DW _ _ _ _ _
       refine RD hnt (nn 3 []) [49] [(9,pI (w64 (((k1 : Nat) : Int) + 1)))] [] [] tv ?_
       exact jD () ⟨hlt1,hm⟩ (Conv.tp [(9,pI (w64 (((k1 : Nat) : Int) + 1)))] [] (by kernel_rfl) (.cons rfl (.of_eq (congrArg pI (Cs hlt1 hc1))) .nil) .nil)
    ·intro h29
     have hge1 : ¬ k1 < p0.nodes.length := by have := of_decide_eq_false h29; omega
     have hm := he1 hge1
     unfold Zh at hm
     refine DW.exit ?_
     refine Al ?_
     refine Ar ?_
     refine Af ?_
     show DW _ _ _ _ _
     obtain ⟨r32,hr32,hm⟩ := bo hm
     refine Sq (Sq ?_)
     refine Jn (ι := Bool) (fun (y6 : Bool) => Ae [(1,pI p1),(2,pS p2),(3,rr 1024),(6,rr 1048),(65,pB y6)] [(c5e3 p0),(c5e2)]) (fun y6 => (Nn p0 p1 p2) y6 = some RES) ?_ ?_
     ·intro y6 hm
      unfold Nn at hm
      refine An hm ?_ ?_
      ·intro h35 hm
       refine Sq (RD hnt (nn 4 []) [1,2,3,65] [(7,pI 0),(8,pI 7)] [1024] [] tv ?_)
       refine DW.cv [] [] [] [(c5e4),(100000,ob0 (Cq []))] (Conv.ads [(.o 1048 0,100000,6,elems Bw De [])]) ?_
       obtain rfl := sj hm
       exact DW.ret (Ak [Cq []] [100000] (.tup [.agg [ow 0 0,pI 0],pI 0,pI 7]))
      ·intro h35 hm
       refine Sk ?_
       obtain ⟨r36,hr36,hm⟩ := bo hm
       refine Sq (RD hnt (.no :: o14 [] true r36 :: nn 2 []) [65] [(10,rr 1080)] [] [(1080,bx [ow 1544 r36.nodes.length,pI r36.next]),(1544,ob0 (Cq r36.nodes))] (an (Aep p0 r36 hr36) tv) ?_)
       obtain ⟨g37,hm⟩ := go1 hm
       refine Sq (RN hnt (nn 11 []) [(3,rr 1024),(6,rr 1048),(10,rr 1080)] [(c5e3 p0),(c5e2),(1080,bx [ow 1544 (r36.nodes ++ [(c5e1 p0 p1 p2)]).length,pI r36.next]),(1544,ob0 (Cq (r36.nodes ++ [(c5e1 p0 p1 p2)])))] [] [(1080,.box [ow 1544 (r36.nodes.length + 1),pI r36.next]),(1544,.row 6 (r36.nodes.length + 1) (Et r36.nodes.length (Ub r36.nodes) (cut 6 [vi p0.next,vi p1,vs p2,vi 0,vi 0,vi 0])))] (an (by omega : (r36.nodes.length + 1) * 56 ≤ 140737488355328) tv) (by kernel_rfl) .nil (.cons rfl (.box (.cons (MLe.ownLen (enc := Bw) (d := De) (f := (Et r36.nodes.length (Ub r36.nodes) (cut 6 [vi p0.next,vi p1,vs p2,vi 0,vi 0,vi 0]))) (RowIs.cat RowIs.elems (RowIs.lit (enc := Bw) (d := De) (n := 1) (f := (cut 6 [vi p0.next,vi p1,vs p2,vi 0,vi 0,vi 0])) [(c5e1 p0 p1 p2)] rfl (fun | 0,_ => rfl | n + 1,h => absurd h (by omega))))) (.cons .rfl .nil))) (.cons rfl (BLe.typed (RowIs.cat RowIs.elems (RowIs.lit (enc := Bw) (d := De) (n := 1) (f := (cut 6 [vi p0.next,vi p1,vs p2,vi 0,vi 0,vi 0])) [(c5e1 p0 p1 p2)] rfl (fun | 0,_ => rfl | n + 1,h => absurd h (by omega))))) .nil)) ?_)
       refine Sq (RD hnt (nn 5 []) [] [] [] [(1080,bx [ow 1544 (r36.nodes ++ [(c5e1 p0 p1 p2)]).length,pI (w64 (r36.next + 1))])] tv ?_)
       refine Sq (RD hnt (nn 6 []) [3,10] [(7,pI p0.next),(8,pI 0)] [1024,1080] [(1048,bx [ow 1544 (r36.nodes ++ [(c5e1 p0 p1 p2)]).length,pI (w64 (r36.next + 1))])] tv ?_)
       obtain rfl := sj hm
       exact DW.ret (Ak [Cq (r36.nodes ++ [(c5e1 p0 p1 p2)])] [1544] (.tup [.agg [ow 0 (r36.nodes ++ [(c5e1 p0 p1 p2)]).length,pI (w64 (r36.next + 1))],pI p0.next,pI 0]))
     ·rcases bt (decide (r32 ≥ 8)) with h33 | h33
      ·replace hm := Bf h33 hm
       refine RD hnt (nn 2 (o12 [] true r32 :: nn 2 (sk 4 (pT :: .no :: sk 3 (pT :: []))))) [9,29] [(65,pB true)] [] [] (an (Td p0 p1 r32 hr32) (an5 h33 (an4 tt tv))) ?_
       exact jD true hm Conv.eqK
      ·replace hm := Bg h33 hm
       rcases bt (decide (((p0.nodes.length : Nat) : Int) ≥ 64)) with h34 | h34
       ·replace hm := Bf h34 hm
        refine RD hnt (nn 2 (o12 [] true r32 :: nn 6 (pF :: .no :: sk 3 (pT :: [])))) [9,29] [(65,pB true)] [] [] (an (Td p0 p1 r32 hr32) (an5 h33 (an4 h34 tv))) ?_
        exact jD true hm Conv.eqK
       ·replace hm := Bg h34 hm
        refine RD hnt (nn 2 (o12 [] true r32 :: nn 6 (pF :: nn 4 (pF :: [])))) [9,29] [(65,pB (decide (p0.next > 2147483647)))] [] [] (an (Td p0 p1 r32 hr32) (an5 h33 (an4 h34 tv))) ?_
        exact jD (decide (p0.next > 2147483647)) hm Conv.eqK
 ·rcases bt (!r1) with h2 | h2
  ·replace hm := Bf h2 hm
   refine RD hnt (.no :: o6 [] true r1 :: nn 2 (sk 3 (pT :: []))) [] [(18,pB true)] [] [] (an (Mr p0 r1 hr1) (an4 h2 tv)) ?_
   exact jD true hm Conv.eqK
  ·replace hm := Bg h2 hm
   obtain ⟨r3,hr3,hm⟩ := bo hm
   refine RD hnt (.no :: o6 [] true r1 :: nn 3 (o8 [] true r3 :: .no :: pF :: [])) [] [(18,pB (!r3))] [] [] (an (Mr p0 r1 hr1) (an2 h2 (an (Yx p2 r3 hr3) (an2 h2 tv)))) ?_
   exact jD (!r3) hm Conv.eqK
abbrev o5 (ks : List Nat) (b : Bool) (RES : Ac × Int × Int) (sm : List Nat := []) : Orc := .call 16 ks b (.tup [.agg [ow 0 RES.1.nodes.length,pI RES.1.next],pI RES.2.1,pI RES.2.2]) [] [Cq RES.1.nodes] sm

abbrev c18e1 : Nat × Obj := (1016,bx [pI 0,pI 0,pI 0,pI 0,pI 0,pI 0,pI 0,.p (.sl .nil 0 0 (fun _ => [])),.p (.sl .nil 0 0 (fun _ => [])),pI 0,pI 0,pI 0,pI 0,pI 0,pI 0,pB false,.p (.sl .nil 0 0 (fun _ => []))])
theorem Yo (p0 : As) (RES : As) (hm : Sr p0 = some RES) : Spec Try.prog 47 [.p (.agg (Em p0))] [] (.agg [pI RES.pidsMax,pI RES.weight,pI RES.quota,pI RES.period,pI RES.burst,pI RES.clampMin,pI RES.clampMax,ow 0 RES.cpus.length,ow 1 RES.mems.length,pI RES.partition,pI RES.memory.min,pI RES.memory.low,pI RES.memory.high,pI RES.memory.max,pI RES.memory.swapMax,pB RES.memory.together,ow 2 RES.devices.length]) [] [roI RES.cpus,roI RES.mems,Ah RES.devices] := by
 unfold Sr at hm
 refine SO Try.func47 rfl rfl [(0,.p (.agg (Em p0)))] [] ?_
 intro cx hnt
 refine Sq (RK hnt (nn 2 []) [(1,rr 1008),(2,rr 1016)] [(1008,bx (pm (Em p0))),(c18e1)] tv ?_)
 obtain ⟨g1,g2,hm⟩ := go2 hm
 refine Sq (RN hnt (nn 10 []) [(1,rr 1008),(2,rr 1016)] [(1008,bx [pI p0.pidsMax,pI p0.weight,pI p0.quota,pI p0.period,pI p0.burst,pI p0.clampMin,pI p0.clampMax,ow 1040 p0.cpus.length,ow 1064 p0.mems.length,pI p0.partition,pI p0.memory.min,pI p0.memory.low,pI p0.memory.high,pI p0.memory.max,pI p0.memory.swapMax,pB p0.memory.together,.p (Dp p0.devices)]),(c18e1),(1040,ob0 (roI p0.cpus)),(1064,ob0 (roI p0.mems))] [] [(1040,.row 1 p0.cpus.length (elI p0.cpus)),(1064,.row 1 p0.mems.length (elI p0.mems))] (an (by omega : p0.cpus.length * 8 ≤ 140737488355328) (an (by omega : p0.mems.length * 8 ≤ 140737488355328) tv)) (by kernel_rfl) .nil (.cons rfl (BLe.typed RowIs.elems) (.cons rfl (BLe.typed RowIs.elems) .nil)) ?_)
 obtain ⟨g3,hm⟩ := go1 hm
 refine Sq (RN hnt (nn 5 []) [(1,rr 1008),(2,rr 1016)] [(1008,bx [pI p0.pidsMax,pI p0.weight,pI p0.quota,pI p0.period,pI p0.burst,pI p0.clampMin,pI p0.clampMax,ow 1040 p0.cpus.length,ow 1064 p0.mems.length,pI p0.partition,pI p0.memory.min,pI p0.memory.low,pI p0.memory.high,pI p0.memory.max,pI p0.memory.swapMax,pB p0.memory.together,ow 1104 p0.devices.length]),(c18e1),(1040,ob0 (roI p0.cpus)),(1064,ob0 (roI p0.mems)),(1104,ob0 (Ah p0.devices))] [] [(1104,.row 7 p0.devices.length (Rb p0.devices))] (an (by omega : p0.devices.length * 56 ≤ 140737488355328) tv) (by kernel_rfl) .nil (.cons rfl (BLe.typed RowIs.elems) .nil) ?_)
 refine Sq (RD hnt (nn 2 []) [1] [] [1008] [(1016,bx [pI p0.pidsMax,pI p0.weight,pI p0.quota,pI p0.period,pI p0.burst,pI p0.clampMin,pI p0.clampMax,ow 1040 p0.cpus.length,ow 1064 p0.mems.length,pI p0.partition,pI p0.memory.min,pI p0.memory.low,pI p0.memory.high,pI p0.memory.max,pI p0.memory.swapMax,pB p0.memory.together,ow 1104 p0.devices.length])] tv ?_)
 obtain rfl := sj hm
 exact DW.ret (Ak [roI p0.cpus,roI p0.mems,Ah p0.devices] [1040,1064,1104] (.agg [pI p0.pidsMax,pI p0.weight,pI p0.quota,pI p0.period,pI p0.burst,pI p0.clampMin,pI p0.clampMax,ow 0 p0.cpus.length,ow 1 p0.mems.length,pI p0.partition,pI p0.memory.min,pI p0.memory.low,pI p0.memory.high,pI p0.memory.max,pI p0.memory.swapMax,pB p0.memory.together,ow 2 p0.devices.length]))
abbrev o18 (ks : List Nat) (b : Bool) (RES : As) (sm : List Nat := []) : Orc := .call 47 ks b (.agg [pI RES.pidsMax,pI RES.weight,pI RES.quota,pI RES.period,pI RES.burst,pI RES.clampMin,pI RES.clampMax,ow 0 RES.cpus.length,ow 1 RES.mems.length,pI RES.partition,pI RES.memory.min,pI RES.memory.low,pI RES.memory.high,pI RES.memory.max,pI RES.memory.swapMax,pB RES.memory.together,ow 2 RES.devices.length]) [] [roI RES.cpus,roI RES.mems,Ah RES.devices] sm

theorem Rm (RES : Gw) (hm : Lw = some RES) : Spec Try.prog 67 [] [] (.p (.agg (Kb RES))) [] [] := by
 unfold Lw at hm
 refine SO Try.func67 rfl rfl [] [] ?_
 intro cx hnt
 refine Sq (RK hnt (.no :: []) [(0,rr 1000)] [(1000,bx [pI 0,pI 0,pI 0,pI 0,pI 0,pB false])] tv ?_)
 refine Sq (RK hnt (nn 2 []) [(0,rr 1000)] [(1000,bx [pI 0,pI 0,pI 4611686018427387904,pI 4611686018427387904,pI 4611686018427387904,pB false])] tv ?_)
 obtain rfl := sj hm
 exact DW.ret (Ak [] [] (.p (.agg [vi 0,vi 0,vi 4611686018427387904,vi 4611686018427387904,vi 4611686018427387904,vb false])))
abbrev o20 (ks : List Nat) (b : Bool) (RES : Gw) (sm : List Nat := []) : Orc := .call 67 ks b (.p (.agg (Kb RES))) [] [] sm

theorem Qm (RES : List Aq) (hm : Lj = some RES) : Spec Try.prog 68 [] [] (ow 0 RES.length) [] [Ah RES] := by
 unfold Lj at hm
 refine SO Try.func68 rfl rfl [] [] ?_
 intro cx hnt
 refine Sq (RK hnt (.no :: []) [] [] tv ?_)
 refine Sq (RK hnt (.no :: []) [(0,.p (.sl .nil 0 0 (fun _ => [])))] [] tv ?_)
 refine DW.cv [] [(0,ow 100000 0)] [] [(100000,ob0 (Ah []))] (Conv.ads [(.s 0,100000,7,elems Cw Ln [])]) ?_
 obtain rfl := sj hm
 exact DW.ret (Ak [Ah []] [100000] (ow 0 0))
abbrev o21 (ks : List Nat) (b : Bool) (RES : List Aq) (sm : List Nat := []) : Orc := .call 68 ks b (ow 0 RES.length) [] [Ah RES] sm

theorem Ut (RES : As) (hm : Up = some RES) : Spec Try.prog 48 [] [] (.agg [pI RES.pidsMax,pI RES.weight,pI RES.quota,pI RES.period,pI RES.burst,pI RES.clampMin,pI RES.clampMax,ow 0 RES.cpus.length,ow 1 RES.mems.length,pI RES.partition,pI RES.memory.min,pI RES.memory.low,pI RES.memory.high,pI RES.memory.max,pI RES.memory.swapMax,pB RES.memory.together,ow 2 RES.devices.length]) [] [roI RES.cpus,roI RES.mems,Ah RES.devices] := by
 unfold Up at hm
 refine SO Try.func48 rfl rfl [] [] ?_
 intro cx hnt
 refine Sq (RK hnt (.no :: []) [(0,rr 1000)] [(1000,bx [pI 0,pI 0,pI 0,pI 0,pI 0,pI 0,pI 0,.p (.sl .nil 0 0 (fun _ => [])),.p (.sl .nil 0 0 (fun _ => [])),pI 0,pI 0,pI 0,pI 0,pI 0,pI 0,pB false,.p (.sl .nil 0 0 (fun _ => []))])] tv ?_)
 obtain ⟨r1,hr1,hm⟩ := bo hm
 obtain ⟨r2,hr2,hm⟩ := bo hm
 refine Sq (RK hnt (o20 [] true r1 :: o21 [] true r2 :: nn 2 []) [(0,rr 1000)] [(1000,bx [pI 4611686018427387904,pI 100,pI 4611686018427387904,pI 100000,pI 0,pI 0,pI 10000,.p (.sl .nil 0 0 (fun _ => [])),.p (.sl .nil 0 0 (fun _ => [])),pI 0,pI r1.min,pI r1.low,pI r1.high,pI r1.max,pI r1.swapMax,pB r1.together,ow 1016 r2.length]),(1016,ob0 (Ah r2))] (an (Rm r1 hr1) (an (Qm r2 hr2) tv)) ?_)
 refine DW.cv [] [] [] [(1000,bx [pI 4611686018427387904,pI 100,pI 4611686018427387904,pI 100000,pI 0,pI 0,pI 10000,ow 100000 0,ow 100001 0,pI 0,pI r1.min,pI r1.low,pI r1.high,pI r1.max,pI r1.swapMax,pB r1.together,ow 1016 r2.length]),(100000,ob0 (roI [])),(100001,ob0 (roI []))] (Conv.ads [(.o 1000 7,100000,1,elems Bb 0 []),(.o 1000 8,100001,1,elems Bb 0 [])]) ?_
 obtain rfl := sj hm
 exact DW.ret (Ak [roI [],roI [],Ah r2] [100000,100001,1016] (.agg [pI 4611686018427387904,pI 100,pI 4611686018427387904,pI 100000,pI 0,pI 0,pI 10000,ow 0 0,ow 1 0,pI 0,pI r1.min,pI r1.low,pI r1.high,pI r1.max,pI r1.swapMax,pB r1.together,ow 2 r2.length]))
abbrev o19 (ks : List Nat) (b : Bool) (RES : As) (sm : List Nat := []) : Orc := .call 48 ks b (.agg [pI RES.pidsMax,pI RES.weight,pI RES.quota,pI RES.period,pI RES.burst,pI RES.clampMin,pI RES.clampMax,ow 0 RES.cpus.length,ow 1 RES.mems.length,pI RES.partition,pI RES.memory.min,pI RES.memory.low,pI RES.memory.high,pI RES.memory.max,pI RES.memory.swapMax,pB RES.memory.together,ow 2 RES.devices.length]) [] [roI RES.cpus,roI RES.mems,Ah RES.devices] sm

abbrev c17e1 : Nat × Obj := (1032,bx [pI 0,pI 0,pI 0,pI 0,pI 0,pI 0,pI 0,.p (.sl .nil 0 0 (fun _ => [])),.p (.sl .nil 0 0 (fun _ => [])),pI 0,pI 0,pI 0,pI 0,pI 0,pI 0,pB false,.p (.sl .nil 0 0 (fun _ => []))])
theorem Get_ref11Spec (p0 : List Ab) (p1 : Int) (RES : As) (hm : My p0 p1 = some RES) : Spec Try.prog 36 [.p (Ba p0),pI p1] [] (.agg [pI RES.pidsMax,pI RES.weight,pI RES.quota,pI RES.period,pI RES.burst,pI RES.clampMin,pI RES.clampMax,ow 0 RES.cpus.length,ow 1 RES.mems.length,pI RES.partition,pI RES.memory.min,pI RES.memory.low,pI RES.memory.high,pI RES.memory.max,pI RES.memory.swapMax,pB RES.memory.together,ow 2 RES.devices.length]) [] [roI RES.cpus,roI RES.mems,Ah RES.devices] := by
 unfold My at hm
 refine SO Try.func36 rfl rfl [(0,.p (Ba p0)),(1,pI p1)] [] ?_
 intro cx hnt
 refine Sq (RD hnt (.no :: []) [] [(4,rr 1032)] [] [(c17e1)] tv ?_)
 refine Sq (Sq (RD hnt (.no :: []) [] [(5,pI 0)] [] [] tv ?_))
 refine Bk ?_
 obtain ⟨hc1,hm⟩ := go1 hm
 refine DW.rangeO (fun (k1 : Nat) (s1 : Unit) => Ae [(0,.p (Ba p0)),(1,pI p1),(4,rr 1032),(5,pI ((k1 : Nat) : Int))] [(c17e1)]) Bc hm Conv.eqK ?_
 intro k1 s1 n1 hk1 hs1 he1
 refine Sq (Sq (RD hnt (nn 4 []) [] [(9,pB (decide (((k1 : Nat) : Int) < ((p0.length : Nat) : Int))))] [] [] tv ?_))
 refine Dr (decide (((k1 : Nat) : Int) < ((p0.length : Nat) : Int))) ?_ ?_
 ·intro h13
  have hlt1 : k1 < p0.length := by have := of_decide_eq_true h13; omega
  have hm := hs1 hlt1
  unfold To at hm
  refine Sk ?_
  refine Sq (Bk ?_)
  refine Sq (RD hnt (nn 7 []) [9] [(18,pB ((p0.getD k1 (default : Ab)).group == p1))] [] [] (an (nn0 k1) (an (ltc hlt1) tv)) ?_)
  refine An hm ?_ ?_
  ·intro h14 hm
   obtain ⟨r15,hr15,hm⟩ := bo hm
   refine Sq (RK hnt (nn 5 (o18 [] true r15 :: .no :: [])) [(4,rr 1032)] [(1032,bx [pI r15.pidsMax,pI r15.weight,pI r15.quota,pI r15.period,pI r15.burst,pI r15.clampMin,pI r15.clampMax,ow 1192 r15.cpus.length,ow 1193 r15.mems.length,pI r15.partition,pI r15.memory.min,pI r15.memory.low,pI r15.memory.high,pI r15.memory.max,pI r15.memory.swapMax,pB r15.memory.together,ow 1194 r15.devices.length]),(1192,ob0 (roI r15.cpus)),(1193,ob0 (roI r15.mems)),(1194,ob0 (Ah r15.devices))] (an (nn0 k1) (an (ltc hlt1) (an (Yo (p0.getD k1 (default : Ab)).settings r15 hr15) tv))) ?_)
   obtain rfl := sj hm
   exact DW.ret (Ak [roI r15.cpus,roI r15.mems,Ah r15.devices] [1192,1193,1194] (.agg [pI r15.pidsMax,pI r15.weight,pI r15.quota,pI r15.period,pI r15.burst,pI r15.clampMin,pI r15.clampMax,ow 0 r15.cpus.length,ow 1 r15.mems.length,pI r15.partition,pI r15.memory.min,pI r15.memory.low,pI r15.memory.high,pI r15.memory.max,pI r15.memory.swapMax,pB r15.memory.together,ow 2 r15.devices.length]))
  ·intro h14 hm
   refine Sk ?_
   refine DW.done ?_
   show DW _ _ _ _ _
   refine RD hnt (nn 3 []) [18] [(5,pI (w64 (((k1 : Nat) : Int) + 1)))] [] [] tv ?_
   exact jD () ⟨hlt1,hm⟩ (Conv.tp [(5,pI (w64 (((k1 : Nat) : Int) + 1)))] [] (by kernel_rfl) (.cons rfl (.of_eq (congrArg pI (Cs hlt1 hc1))) .nil) .nil)
 ·intro h13
  have hge1 : ¬ k1 < p0.length := by have := of_decide_eq_false h13; omega
  have hm := he1 hge1
  unfold Yf at hm
  refine DW.exit ?_
  refine Al ?_
  refine Ar ?_
  refine Af ?_
  show DW _ _ _ _ _
  obtain ⟨r16,hr16,hm⟩ := bo hm
  refine Sq (RK hnt (o19 [] true r16 :: .no :: []) [(4,rr 1032)] [(1032,bx [pI r16.pidsMax,pI r16.weight,pI r16.quota,pI r16.period,pI r16.burst,pI r16.clampMin,pI r16.clampMax,ow 1200 r16.cpus.length,ow 1201 r16.mems.length,pI r16.partition,pI r16.memory.min,pI r16.memory.low,pI r16.memory.high,pI r16.memory.max,pI r16.memory.swapMax,pB r16.memory.together,ow 1202 r16.devices.length]),(1200,ob0 (roI r16.cpus)),(1201,ob0 (roI r16.mems)),(1202,ob0 (Ah r16.devices))] (an (Ut r16 hr16) tv) ?_)
  obtain rfl := sj hm
  exact DW.ret (Ak [roI r16.cpus,roI r16.mems,Ah r16.devices] [1200,1201,1202] (.agg [pI r16.pidsMax,pI r16.weight,pI r16.quota,pI r16.period,pI r16.burst,pI r16.clampMin,pI r16.clampMax,ow 0 r16.cpus.length,ow 1 r16.mems.length,pI r16.partition,pI r16.memory.min,pI r16.memory.low,pI r16.memory.high,pI r16.memory.max,pI r16.memory.swapMax,pB r16.memory.together,ow 2 r16.devices.length]))
abbrev c22e1 : Nat × Obj := (1032,bx [pI 0,pI 0,pI 0,pI 0,pI 0,pI 0,pI 0,.p (.sl .nil 0 0 (fun _ => [])),.p (.sl .nil 0 0 (fun _ => [])),pI 0,pI 0,pI 0,pI 0,pI 0,pI 0,pB false,.p (.sl .nil 0 0 (fun _ => []))])
theorem Adq (p0 : List Ab) (p1 : Int) (RES : As) (hm : My p0 p1 = some RES) : Spec Try.prog 36 [.p (Ba p0),pI p1] [] (.p (.agg (Em RES))) [] [] := by
 unfold My at hm
 refine SO Try.func36 rfl rfl [(0,.p (Ba p0)),(1,pI p1)] [] ?_
 intro cx hnt
 refine Sq (RD hnt (.no :: []) [] [(4,rr 1032)] [] [(c22e1)] tv ?_)
 refine Sq (Sq (RD hnt (.no :: []) [] [(5,pI 0)] [] [] tv ?_))
 refine Bk ?_
 obtain ⟨hc1,hm⟩ := go1 hm
 refine DW.rangeO (fun (k1 : Nat) (s1 : Unit) => Ae [(0,.p (Ba p0)),(1,pI p1),(4,rr 1032),(5,pI ((k1 : Nat) : Int))] [(c22e1)]) Bc hm Conv.eqK ?_
 intro k1 s1 n1 hk1 hs1 he1
 refine Sq (Sq (RD hnt (nn 4 []) [] [(9,pB (decide (((k1 : Nat) : Int) < ((p0.length : Nat) : Int))))] [] [] tv ?_))
 refine Dr (decide (((k1 : Nat) : Int) < ((p0.length : Nat) : Int))) ?_ ?_
 ·intro h13
  have hlt1 : k1 < p0.length := by have := of_decide_eq_true h13; omega
  have hm := hs1 hlt1
  unfold To at hm
  refine Sk ?_
  refine Sq (Bk ?_)
  refine Sq (RD hnt (nn 7 []) [9] [(18,pB ((p0.getD k1 (default : Ab)).group == p1))] [] [] (an (nn0 k1) (an (ltc hlt1) tv)) ?_)
  refine An hm ?_ ?_
  ·intro h14 hm
   obtain ⟨r15,hr15,hm⟩ := bo hm
   refine Sq (RK hnt (nn 5 (o18 [] true r15 :: .no :: [])) [(4,rr 1032)] [(1032,bx [pI r15.pidsMax,pI r15.weight,pI r15.quota,pI r15.period,pI r15.burst,pI r15.clampMin,pI r15.clampMax,ow 1192 r15.cpus.length,ow 1193 r15.mems.length,pI r15.partition,pI r15.memory.min,pI r15.memory.low,pI r15.memory.high,pI r15.memory.max,pI r15.memory.swapMax,pB r15.memory.together,ow 1194 r15.devices.length]),(1192,ob0 (roI r15.cpus)),(1193,ob0 (roI r15.mems)),(1194,ob0 (Ah r15.devices))] (an (nn0 k1) (an (ltc hlt1) (an (Yo (p0.getD k1 (default : Ab)).settings r15 hr15) tv))) ?_)
   obtain rfl := sj hm
   exact DW.ret (Ak [] [] (.p (.agg (Em r15))))
  ·intro h14 hm
   refine Sk ?_
   refine DW.done ?_
   show DW _ _ _ _ _
   refine RD hnt (nn 3 []) [18] [(5,pI (w64 (((k1 : Nat) : Int) + 1)))] [] [] tv ?_
   exact jD () ⟨hlt1,hm⟩ (Conv.tp [(5,pI (w64 (((k1 : Nat) : Int) + 1)))] [] (by kernel_rfl) (.cons rfl (.of_eq (congrArg pI (Cs hlt1 hc1))) .nil) .nil)
 ·intro h13
  have hge1 : ¬ k1 < p0.length := by have := of_decide_eq_false h13; omega
  have hm := he1 hge1
  unfold Yf at hm
  refine DW.exit ?_
  refine Al ?_
  refine Ar ?_
  refine Af ?_
  show DW _ _ _ _ _
  obtain ⟨r16,hr16,hm⟩ := bo hm
  refine Sq (RK hnt (o19 [] true r16 :: .no :: []) [(4,rr 1032)] [(1032,bx [pI r16.pidsMax,pI r16.weight,pI r16.quota,pI r16.period,pI r16.burst,pI r16.clampMin,pI r16.clampMax,ow 1200 r16.cpus.length,ow 1201 r16.mems.length,pI r16.partition,pI r16.memory.min,pI r16.memory.low,pI r16.memory.high,pI r16.memory.max,pI r16.memory.swapMax,pB r16.memory.together,ow 1202 r16.devices.length]),(1200,ob0 (roI r16.cpus)),(1201,ob0 (roI r16.mems)),(1202,ob0 (Ah r16.devices))] (an (Ut r16 hr16) tv) ?_)
  obtain rfl := sj hm
  exact DW.ret (Ak [] [] (.p (.agg (Em r16))))
abbrev o22 (ks : List Nat) (b : Bool) (RES : As) (sm : List Nat := []) : Orc := .call 36 ks b (.p (.agg (Em RES))) [] [] sm

abbrev c16e1 (p0 : Ac) (k1 : Nat) (r20 : As) := ({ group := (p0.nodes.getD k1 (default : Ai)).id,settings := r20 } : Ab)
abbrev c16e2 (p0 : Ac) (k1 : Nat) := (p0.nodes.getD k1 (default : Ai))
theorem Ace (p0 : Ac) (p1 : List Ab) (RES : List Ab) (hm : Sd p0 p1 = some RES) : Spec Try.prog 22 [.p (.agg (Am p0)),.p (Ba p1)] [] (ow 0 RES.length) [] [Du RES] := by
 unfold Sd at hm
 refine SO Try.func22 rfl rfl [(0,.p (.agg (Am p0))),(1,.p (Ba p1))] [] ?_
 intro cx hnt
 refine Sq (RD hnt (nn 2 []) [0] [(2,rr 1016)] [] [(1016,bx (pm (Am p0)))] tv ?_)
 obtain ⟨r1,hr1,hm⟩ := bo hm
 refine Sq (Sq (RD hnt (.no :: o6 [] true r1 :: .no :: []) [] [(9,pB (!r1))] [] [] (an (Mr p0 r1 hr1) tv) ?_))
 refine An hm ?_ ?_
 ·intro h2 hm
  refine Sq (RK hnt (.no :: []) [(4,.p (.sl .nil 0 0 (fun _ => [])))] [] tv ?_)
  refine DW.cv [] [(4,ow 100000 0)] [] [(100000,ob0 (Du []))] (Conv.ads [(.s 4,100000,18,elems Hy Bc [])]) ?_
  obtain rfl := sj hm
  exact DW.ret (Ak [Du []] [100000] (ow 0 0))
 ·intro h2 hm
  refine Sk ?_
  refine Sq (RD hnt (.no :: []) [9] [(5,.p (.sl .nil 0 0 (fun _ => [])))] [] [] tv ?_)
  refine Sq (Sq (RD hnt (.no :: []) [] [(6,pI 0)] [] [] tv ?_))
  refine Bk ?_
  obtain ⟨hc1,hm⟩ := go1 hm
  refine DW.rangeO (fun (k1 : Nat) (s1 : List Ab) => Ae [(1,.p (Ba p1)),(2,rr 1016),(5,ow 1272 s1.length),(6,pI ((k1 : Nat) : Int))] [(1016,bx (pm (Am p0))),(1272,ob0 (Du s1))]) De hm (Conv.ads [(.s 5,1272,18,elems Hy Bc [])]) ?_
  intro k1 s1 n1 hk1 hs1 he1
  refine Sq (Sq (RD hnt (nn 5 []) [] [(14,pB (decide (((k1 : Nat) : Int) < ((p0.nodes.length : Nat) : Int))))] [] [] tv ?_))
  refine Dr (decide (((k1 : Nat) : Int) < ((p0.nodes.length : Nat) : Int))) ?_ ?_
  ·intro h18
   have hlt1 : k1 < p0.nodes.length := by have := of_decide_eq_true h18; omega
   have hm := hs1 hlt1
   unfold Tc at hm
   refine Sk ?_
   refine Sq (Bk ?_)
   obtain ⟨r20,hr20,hm⟩ := bo hm
   obtain ⟨g21,hm⟩ := go1 hm
   refine RN hnt (nn 14 (o22 [] true r20 :: nn 4 [])) [(1,.p (Ba p1)),(2,rr 1016),(5,ow 1272 (s1 ++ [(c16e1 p0 k1 r20)]).length),(6,pI ((k1 : Nat) : Int))] [(1016,bx (pm (Am p0))),(1272,ob0 (Du (s1 ++ [(c16e1 p0 k1 r20)])))] [(5,ow 1272 (s1.length + 1))] [(1272,.row 18 (s1.length + 1) (Et s1.length (Zp s1) (cut 18 [vi (c16e2 p0 k1).id,vi r20.pidsMax,vi r20.weight,vi r20.quota,vi r20.period,vi r20.burst,vi r20.clampMin,vi r20.clampMax,slI r20.cpus,slI r20.mems,vi r20.partition,vi r20.memory.min,vi r20.memory.low,vi r20.memory.high,vi r20.memory.max,vi r20.memory.swapMax,vb r20.memory.together,Dp r20.devices])))] (an (nn0 k1) (an (ltc hlt1) (an (nn0 k1) (an (ltc hlt1) (an (Adq p1 (c16e2 p0 k1).id r20 hr20) (an (by omega : (s1.length + 1) * 192 ≤ 140737488355328) tv)))))) (by kernel_rfl) (.cons rfl (MLe.ownLen (enc := Hy) (d := Bc) (f := (Et s1.length (Zp s1) (cut 18 [vi (c16e2 p0 k1).id,vi r20.pidsMax,vi r20.weight,vi r20.quota,vi r20.period,vi r20.burst,vi r20.clampMin,vi r20.clampMax,slI r20.cpus,slI r20.mems,vi r20.partition,vi r20.memory.min,vi r20.memory.low,vi r20.memory.high,vi r20.memory.max,vi r20.memory.swapMax,vb r20.memory.together,Dp r20.devices]))) (RowIs.cat RowIs.elems (RowIs.lit (enc := Hy) (d := Bc) (n := 1) (f := (cut 18 [vi (c16e2 p0 k1).id,vi r20.pidsMax,vi r20.weight,vi r20.quota,vi r20.period,vi r20.burst,vi r20.clampMin,vi r20.clampMax,slI r20.cpus,slI r20.mems,vi r20.partition,vi r20.memory.min,vi r20.memory.low,vi r20.memory.high,vi r20.memory.max,vi r20.memory.swapMax,vb r20.memory.together,Dp r20.devices])) [(c16e1 p0 k1 r20)] rfl (fun | 0,_ => rfl | n + 1,h => absurd h (by omega))))) .nil) (.cons rfl (BLe.typed (RowIs.cat RowIs.elems (RowIs.lit (enc := Hy) (d := Bc) (n := 1) (f := (cut 18 [vi (c16e2 p0 k1).id,vi r20.pidsMax,vi r20.weight,vi r20.quota,vi r20.period,vi r20.burst,vi r20.clampMin,vi r20.clampMax,slI r20.cpus,slI r20.mems,vi r20.partition,vi r20.memory.min,vi r20.memory.low,vi r20.memory.high,vi r20.memory.max,vi r20.memory.swapMax,vb r20.memory.together,Dp r20.devices])) [(c16e1 p0 k1 r20)] rfl (fun | 0,_ => rfl | n + 1,h => absurd h (by omega))))) .nil) ?_
   refine DW.done ?_
   show DW _ _ _ _ _
   refine RD hnt (nn 3 []) [] [(6,pI (w64 (((k1 : Nat) : Int) + 1)))] [] [] tv ?_
   exact jD (s1 ++ [(c16e1 p0 k1 r20)]) ⟨hlt1,hm⟩ (Conv.tp [(6,pI (w64 (((k1 : Nat) : Int) + 1)))] [] (by kernel_rfl) (.cons rfl (.of_eq (congrArg pI (Cs hlt1 hc1))) .nil) .nil)
  ·intro h18
   have hge1 : ¬ k1 < p0.nodes.length := by have := of_decide_eq_false h18; omega
   have hm := he1 hge1
   unfold Pt at hm
   refine DW.exit ?_
   refine Al ?_
   refine Ar ?_
   refine Af ?_
   show DW _ _ _ _ _
   refine Sq (RK hnt (nn 2 []) [(4,ow 1272 s1.length)] [(1272,ob0 (Du s1))] tv ?_)
   obtain rfl := sj hm
   exact DW.ret (Ak [Du s1] [1272] (ow 0 s1.length))
abbrev o16 (ks : List Nat) (b : Bool) (RES : List Ab) (sm : List Nat := []) : Orc := .call 22 ks b (ow 0 RES.length) [] [Du RES] sm

theorem Aae (p0 : Ac) (RES : List Ab) (hm : Ro p0 = some RES) : Spec Try.prog 8 [.p (.agg (Am p0))] [] (ow 0 RES.length) [] [Du RES] := by
 unfold Ro at hm
 refine SO Try.func8 rfl rfl [(0,.p (.agg (Am p0)))] [] ?_
 intro cx hnt
 refine Sq (RK hnt (nn 2 []) [(1,rr 1008)] [(1008,bx (pm (Am p0)))] tv ?_)
 obtain ⟨r1,hr1,hm⟩ := bo hm
 refine Sq (RK hnt (.no :: o16 [] true r1 :: .no :: []) [(2,ow 1032 r1.length)] [(1032,ob0 (Du r1))] (an (Spec.args (xs := [.p (.agg (Am p0)),.p (.sl .nil 0 0 (fun _ => []))]) (Ace p0 [] r1 hr1) (.cons .rfl (.cons (.p PLe.nilL) .nil))) tv) ?_)
 obtain rfl := sj hm
 exact DW.ret (Ak [Du r1] [1032] (ow 0 r1.length))
abbrev o15 (ks : List Nat) (b : Bool) (RES : List Ab) (sm : List Nat := []) : Orc := .call 8 ks b (ow 0 RES.length) [] [Du RES] sm

theorem Aeb (p0 : Ai) (RES : Bool) (hm : Xs p0 = some RES) : Spec Try.prog 69 [.p (.agg (Bw p0))] [] (pB RES) [] [] := by
 unfold Xs at hm
 refine SO Try.func69 rfl rfl [(0,.p (.agg (Bw p0)))] [] ?_
 intro cx hnt
 refine Sq (RK hnt (nn 2 []) [(1,rr 1008)] [(1008,bx (pm (Bw p0)))] tv ?_)
 refine Sq (DW.regJ (sl2 := [(2,pB ((((p0.id == 1) && (p0.parent == 0)) && (Eg p0.name ByteArray.empty)) && (p0.kind == 0)))]) (ob2 := []) ?_ ?_)
 ·rcases bt (p0.id == 1) with h1 | h1
  ·rcases bt (p0.parent == 0) with h2 | h2
   ·rcases bt (Eg p0.name ByteArray.empty) with h3 | h3
    ·exact RT hnt (nn 7 (pT :: nn 4 (pT :: nn 4 (pT :: .no :: [])))) [(2,pB (p0.kind == 0))] (an4 h1 (an4 h2 (an4 h3 tv))) (by kernel_rfl) (.cons rfl (.of_eq (by rw [h1,h2,h3]; try rfl)) .nil)
    ·exact RT hnt (nn 7 (pT :: nn 4 (pT :: .no :: sk 3 (pF :: .no :: [])))) [(2,pB false)] (an4 h1 (an4 h2 (an4 h3 tv))) (by kernel_rfl) (.cons rfl (.of_eq (by rw [h1,h2,h3]; try rfl)) .nil)
   ·exact RT hnt (nn 7 (pT :: .no :: sk 3 (pF :: .no :: sk 3 (pF :: .no :: [])))) [(2,pB false)] (an4 h1 (an4 h2 (an4 ff tv))) (by kernel_rfl) (.cons rfl (.of_eq (by rw [h1,h2]; try rfl)) .nil)
  ·exact RT hnt (nn 4 (sk 3 (pF :: .no :: sk 3 (pF :: .no :: sk 3 (pF :: .no :: []))))) [(2,pB false)] (an4 h1 (an2 ff (an6 ff tv))) (by kernel_rfl) (.cons rfl (.of_eq (by rw [h1]; try rfl)) .nil)
 ·refine DW.ret ?_
  obtain rfl := sj hm
  exact Ak [] [] (pB ((((p0.id == 1) && (p0.parent == 0)) && (Eg p0.name ByteArray.empty)) && (p0.kind == 0)))
abbrev o27 (ks : List Nat) (b : Bool) (RES : Bool) (sm : List Nat := []) : Orc := .call 69 ks b (pB RES) [] [] sm

theorem Adw (p0 : Int) (RES : Bool) (hm : Vl p0 = some RES) : Spec Try.prog 101 [.p (vk .u8 p0)] [] (pB RES) [] [] := by
 unfold Vl at hm
 refine SO Try.func101 rfl rfl [(0,.p (vk .u8 p0))] [] ?_
 intro cx hnt
 refine Sq (RD hnt (.no :: []) [] [] [] [] tv ?_)
 refine Sq (DW.regJ (sl2 := [(2,pB ((((((decide (p0 ≥ 97)) && (decide (p0 ≤ 122))) || ((decide (p0 ≥ 65)) && (decide (p0 ≤ 90)))) || ((decide (p0 ≥ 48)) && (decide (p0 ≤ 57)))) || (p0 == 95)) || (p0 == 45)))]) (ob2 := []) ?_ ?_)
 ·rcases bt (decide (p0 ≥ 97)) with h1 | h1
  ·rcases bt (decide (p0 ≤ 122)) with h2 | h2
   ·exact RT hnt (nn 5 (pT :: .no :: sk 6 (pT :: .no :: sk 6 (pT :: .no :: sk 2 (pT :: .no :: sk 2 (pT :: .no :: [])))))) [(2,pB true)] (an3 h1 (an5 h2 (an5 tt (an6 tt tv)))) (by kernel_rfl) (.cons rfl (.of_eq (by rw [h1,h2]; try rfl)) .nil)
   ·rcases bt (decide (p0 ≥ 65)) with h3 | h3
    ·rcases bt (decide (p0 ≤ 90)) with h4 | h4
     ·exact RT hnt (nn 5 (pT :: nn 6 (pT :: pF :: .no :: sk 6 (pT :: .no :: sk 2 (pT :: .no :: sk 2 (pT :: .no :: [])))))) [(2,pB true)] (an3 h1 (an3 h2 (an2 h3 (an h2 (an h3 (an h2 (an5 h4 (an6 tt tv)))))))) (by kernel_rfl) (.cons rfl (.of_eq (by rw [h1,h2,h3,h4]; try rfl)) .nil)
     ·rcases bt (decide (p0 ≥ 48)) with h5 | h5
      ·rcases bt (decide (p0 ≤ 57)) with h6 | h6
       ·exact RT hnt (nn 5 (pT :: nn 6 (pT :: pF :: nn 6 (pT :: pF :: .no :: sk 2 (pT :: .no :: sk 2 (pT :: .no :: [])))))) [(2,pB true)] (an3 h1 (an3 h2 (an2 h3 (an h2 (an h3 (an h2 (an3 h4 (an2 h5 (an h4 (an h5 (an h4 (an3 h6 (an3 tt tv))))))))))))) (by kernel_rfl) (.cons rfl (.of_eq (by rw [h1,h2,h3,h4,h5,h6]; try rfl)) .nil)
       ·rcases bt (p0 == 95) with h7 | h7
        ·exact RT hnt (nn 5 (pT :: nn 6 (pT :: pF :: nn 6 (pT :: pF :: nn 3 (pF :: .no :: sk 2 (pT :: .no :: [])))))) [(2,pB true)] (an3 h1 (an3 h2 (an2 h3 (an h2 (an h3 (an h2 (an3 h4 (an2 h5 (an h4 (an h5 (an h4 (an3 h6 (an3 h7 tv))))))))))))) (by kernel_rfl) (.cons rfl (.of_eq (by rw [h1,h2,h3,h4,h5,h6,h7]; try rfl)) .nil)
        ·exact RT hnt (nn 5 (pT :: nn 6 (pT :: pF :: nn 6 (pT :: pF :: nn 3 (pF :: nn 3 (pF :: .no :: [])))))) [(2,pB (p0 == 45))] (an3 h1 (an3 h2 (an2 h3 (an h2 (an h3 (an h2 (an3 h4 (an2 h5 (an h4 (an h5 (an h4 (an3 h6 (an3 h7 tv))))))))))))) (by kernel_rfl) (.cons rfl (.of_eq (by rw [h1,h2,h3,h4,h5,h6,h7]; try rfl)) .nil)
      ·rcases bt (p0 == 95) with h8 | h8
       ·exact RT hnt (nn 5 (pT :: nn 6 (pT :: pF :: nn 4 (sk 2 (pF :: pF :: nn 3 (pF :: .no :: sk 2 (pT :: .no :: []))))))) [(2,pB true)] (an3 h1 (an3 h2 (an2 h3 (an h2 (an h3 (an h2 (an3 h4 (an2 h5 (an h4 (an h5 (an h4 (an3 ff (an3 h8 tv))))))))))))) (by kernel_rfl) (.cons rfl (.of_eq (by rw [h1,h2,h3,h4,h5,h8]; try rfl)) .nil)
       ·exact RT hnt (nn 5 (pT :: nn 6 (pT :: pF :: nn 4 (sk 2 (pF :: pF :: nn 3 (pF :: nn 3 (pF :: .no :: []))))))) [(2,pB (p0 == 45))] (an3 h1 (an3 h2 (an2 h3 (an h2 (an h3 (an h2 (an3 h4 (an2 h5 (an h4 (an h5 (an h4 (an3 ff (an3 h8 tv))))))))))))) (by kernel_rfl) (.cons rfl (.of_eq (by rw [h1,h2,h3,h4,h5,h8]; try rfl)) .nil)
    ·rcases bt (decide (p0 ≥ 48)) with h9 | h9
     ·rcases bt (decide (p0 ≤ 57)) with h10 | h10
      ·exact RT hnt (nn 5 (pT :: nn 4 (sk 2 (pF :: pF :: nn 6 (pT :: pF :: .no :: sk 2 (pT :: .no :: sk 2 (pT :: .no :: []))))))) [(2,pB true)] (an3 h1 (an3 h2 (an2 h3 (an h2 (an h3 (an h2 (an3 ff (an2 h9 (an ff (an h9 (an ff (an3 h10 (an3 tt tv))))))))))))) (by kernel_rfl) (.cons rfl (.of_eq (by rw [h1,h2,h3,h9,h10]; try rfl)) .nil)
      ·rcases bt (p0 == 95) with h11 | h11
       ·exact RT hnt (nn 5 (pT :: nn 4 (sk 2 (pF :: pF :: nn 6 (pT :: pF :: nn 3 (pF :: .no :: sk 2 (pT :: .no :: []))))))) [(2,pB true)] (an3 h1 (an3 h2 (an2 h3 (an h2 (an h3 (an h2 (an3 ff (an2 h9 (an ff (an h9 (an ff (an3 h10 (an3 h11 tv))))))))))))) (by kernel_rfl) (.cons rfl (.of_eq (by rw [h1,h2,h3,h9,h10,h11]; try rfl)) .nil)
       ·exact RT hnt (nn 5 (pT :: nn 4 (sk 2 (pF :: pF :: nn 6 (pT :: pF :: nn 3 (pF :: nn 3 (pF :: .no :: []))))))) [(2,pB (p0 == 45))] (an3 h1 (an3 h2 (an2 h3 (an h2 (an h3 (an h2 (an3 ff (an2 h9 (an ff (an h9 (an ff (an3 h10 (an3 h11 tv))))))))))))) (by kernel_rfl) (.cons rfl (.of_eq (by rw [h1,h2,h3,h9,h10,h11]; try rfl)) .nil)
     ·rcases bt (p0 == 95) with h12 | h12
      ·exact RT hnt (nn 5 (pT :: nn 4 (sk 2 (pF :: pF :: nn 4 (sk 2 (pF :: pF :: nn 3 (pF :: .no :: sk 2 (pT :: .no :: [])))))))) [(2,pB true)] (an3 h1 (an3 h2 (an2 h3 (an h2 (an h3 (an h2 (an3 ff (an2 h9 (an ff (an h9 (an4 ff (an3 h12 tv)))))))))))) (by kernel_rfl) (.cons rfl (.of_eq (by rw [h1,h2,h3,h9,h12]; try rfl)) .nil)
      ·exact RT hnt (nn 5 (pT :: nn 4 (sk 2 (pF :: pF :: nn 4 (sk 2 (pF :: pF :: nn 3 (pF :: nn 3 (pF :: .no :: [])))))))) [(2,pB (p0 == 45))] (an3 h1 (an3 h2 (an2 h3 (an h2 (an h3 (an h2 (an3 ff (an2 h9 (an ff (an h9 (an4 ff (an3 h12 tv)))))))))))) (by kernel_rfl) (.cons rfl (.of_eq (by rw [h1,h2,h3,h9,h12]; try rfl)) .nil)
  ·rcases bt (decide (p0 ≥ 65)) with h13 | h13
   ·rcases bt (decide (p0 ≤ 90)) with h14 | h14
    ·exact RT hnt (nn 3 (sk 2 (pF :: nn 6 (pT :: pF :: .no :: sk 6 (pT :: .no :: sk 2 (pT :: .no :: sk 2 (pT :: .no :: []))))))) [(2,pB true)] (an3 h1 (an3 ff (an2 h13 (an ff (an h13 (an ff (an5 h14 (an6 tt tv)))))))) (by kernel_rfl) (.cons rfl (.of_eq (by rw [h1,h13,h14]; try rfl)) .nil)
    ·rcases bt (decide (p0 ≥ 48)) with h15 | h15
     ·rcases bt (decide (p0 ≤ 57)) with h16 | h16
      ·exact RT hnt (nn 3 (sk 2 (pF :: nn 6 (pT :: pF :: nn 6 (pT :: pF :: .no :: sk 2 (pT :: .no :: sk 2 (pT :: .no :: []))))))) [(2,pB true)] (an3 h1 (an3 ff (an2 h13 (an ff (an h13 (an ff (an3 h14 (an2 h15 (an h14 (an h15 (an h14 (an3 h16 (an3 tt tv))))))))))))) (by kernel_rfl) (.cons rfl (.of_eq (by rw [h1,h13,h14,h15,h16]; try rfl)) .nil)
      ·rcases bt (p0 == 95) with h17 | h17
       ·exact RT hnt (nn 3 (sk 2 (pF :: nn 6 (pT :: pF :: nn 6 (pT :: pF :: nn 3 (pF :: .no :: sk 2 (pT :: .no :: []))))))) [(2,pB true)] (an3 h1 (an3 ff (an2 h13 (an ff (an h13 (an ff (an3 h14 (an2 h15 (an h14 (an h15 (an h14 (an3 h16 (an3 h17 tv))))))))))))) (by kernel_rfl) (.cons rfl (.of_eq (by rw [h1,h13,h14,h15,h16,h17]; try rfl)) .nil)
       ·exact RT hnt (nn 3 (sk 2 (pF :: nn 6 (pT :: pF :: nn 6 (pT :: pF :: nn 3 (pF :: nn 3 (pF :: .no :: []))))))) [(2,pB (p0 == 45))] (an3 h1 (an3 ff (an2 h13 (an ff (an h13 (an ff (an3 h14 (an2 h15 (an h14 (an h15 (an h14 (an3 h16 (an3 h17 tv))))))))))))) (by kernel_rfl) (.cons rfl (.of_eq (by rw [h1,h13,h14,h15,h16,h17]; try rfl)) .nil)
     ·rcases bt (p0 == 95) with h18 | h18
      ·exact RT hnt (nn 3 (sk 2 (pF :: nn 6 (pT :: pF :: nn 4 (sk 2 (pF :: pF :: nn 3 (pF :: .no :: sk 2 (pT :: .no :: [])))))))) [(2,pB true)] (an3 h1 (an3 ff (an2 h13 (an ff (an h13 (an ff (an3 h14 (an2 h15 (an h14 (an h15 (an h14 (an3 ff (an3 h18 tv))))))))))))) (by kernel_rfl) (.cons rfl (.of_eq (by rw [h1,h13,h14,h15,h18]; try rfl)) .nil)
      ·exact RT hnt (nn 3 (sk 2 (pF :: nn 6 (pT :: pF :: nn 4 (sk 2 (pF :: pF :: nn 3 (pF :: nn 3 (pF :: .no :: [])))))))) [(2,pB (p0 == 45))] (an3 h1 (an3 ff (an2 h13 (an ff (an h13 (an ff (an3 h14 (an2 h15 (an h14 (an h15 (an h14 (an3 ff (an3 h18 tv))))))))))))) (by kernel_rfl) (.cons rfl (.of_eq (by rw [h1,h13,h14,h15,h18]; try rfl)) .nil)
   ·rcases bt (decide (p0 ≥ 48)) with h19 | h19
    ·rcases bt (decide (p0 ≤ 57)) with h20 | h20
     ·exact RT hnt (nn 3 (sk 2 (pF :: nn 4 (sk 2 (pF :: pF :: nn 6 (pT :: pF :: .no :: sk 2 (pT :: .no :: sk 2 (pT :: .no :: [])))))))) [(2,pB true)] (an3 h1 (an3 ff (an2 h13 (an ff (an h13 (an4 ff (an2 h19 (an ff (an h19 (an ff (an3 h20 (an3 tt tv)))))))))))) (by kernel_rfl) (.cons rfl (.of_eq (by rw [h1,h13,h19,h20]; try rfl)) .nil)
     ·rcases bt (p0 == 95) with h21 | h21
      ·exact RT hnt (nn 3 (sk 2 (pF :: nn 4 (sk 2 (pF :: pF :: nn 6 (pT :: pF :: nn 3 (pF :: .no :: sk 2 (pT :: .no :: [])))))))) [(2,pB true)] (an3 h1 (an3 ff (an2 h13 (an ff (an h13 (an4 ff (an2 h19 (an ff (an h19 (an ff (an3 h20 (an3 h21 tv)))))))))))) (by kernel_rfl) (.cons rfl (.of_eq (by rw [h1,h13,h19,h20,h21]; try rfl)) .nil)
      ·exact RT hnt (nn 3 (sk 2 (pF :: nn 4 (sk 2 (pF :: pF :: nn 6 (pT :: pF :: nn 3 (pF :: nn 3 (pF :: .no :: [])))))))) [(2,pB (p0 == 45))] (an3 h1 (an3 ff (an2 h13 (an ff (an h13 (an4 ff (an2 h19 (an ff (an h19 (an ff (an3 h20 (an3 h21 tv)))))))))))) (by kernel_rfl) (.cons rfl (.of_eq (by rw [h1,h13,h19,h20,h21]; try rfl)) .nil)
    ·rcases bt (p0 == 95) with h22 | h22
     ·exact RT hnt (nn 3 (sk 2 (pF :: nn 4 (sk 2 (pF :: pF :: nn 4 (sk 2 (pF :: pF :: nn 3 (pF :: .no :: sk 2 (pT :: .no :: []))))))))) [(2,pB true)] (an3 h1 (an3 ff (an2 h13 (an ff (an h13 (an4 ff (an2 h19 (an ff (an h19 (an4 ff (an3 h22 tv))))))))))) (by kernel_rfl) (.cons rfl (.of_eq (by rw [h1,h13,h19,h22]; try rfl)) .nil)
     ·exact RT hnt (nn 3 (sk 2 (pF :: nn 4 (sk 2 (pF :: pF :: nn 4 (sk 2 (pF :: pF :: nn 3 (pF :: nn 3 (pF :: .no :: []))))))))) [(2,pB (p0 == 45))] (an3 h1 (an3 ff (an2 h13 (an ff (an h13 (an4 ff (an2 h19 (an ff (an h19 (an4 ff (an3 h22 tv))))))))))) (by kernel_rfl) (.cons rfl (.of_eq (by rw [h1,h13,h19,h22]; try rfl)) .nil)
 ·refine DW.ret ?_
  obtain rfl := sj hm
  exact Ak [] [] (pB ((((((decide (p0 ≥ 97)) && (decide (p0 ≤ 122))) || ((decide (p0 ≥ 65)) && (decide (p0 ≤ 90)))) || ((decide (p0 ≥ 48)) && (decide (p0 ≤ 57)))) || (p0 == 95)) || (p0 == 45)))
abbrev o30 (ks : List Nat) (b : Bool) (RES : Bool) (sm : List Nat := []) : Orc := .call 101 ks b (pB RES) [] [] sm

theorem Tg (p0 : ByteArray) (RES : Bool) (hm : Ru p0 = some RES) : Spec Try.prog 90 [pS p0] [] (pB RES) [] [] := by
 unfold Ru at hm
 refine SO Try.func90 rfl rfl [(0,pS p0)] [] ?_
 intro cx hnt
 refine Sq (RK hnt (.no :: []) [(0,pS p0)] [] tv ?_)
 refine Sq (Sq (RN hnt (nn 4 []) [(0,pS p0),(6,.p (Mk 1 (encK .u8) 0 (Ig p0))),(7,pI ((p0.size : Nat) : Int)),(8,pI 0)] [] [(6,.p (.sl .unk 1 p0.size (Yu p0)))] [] tv (by kernel_rfl) (.cons rfl (MLe.typed RowIs.bytes) .nil) .nil ?_))
 refine Bk ?_
 obtain ⟨hc1,hm⟩ := go1 hm
 refine DW.rangeO (fun (k1 : Nat) (s1 : Unit) => Ae [(0,pS p0),(6,.p (Mk 1 (encK .u8) 0 (Ig p0))),(7,pI ((p0.size : Nat) : Int)),(8,pI ((k1 : Nat) : Int))] []) 0 hm .refl ?_
 intro k1 s1 n1 hk1 hs1 he1
 refine Sq (RD hnt (.no :: []) [] [(9,pB (decide (((k1 : Nat) : Int) < ((p0.size : Nat) : Int))))] [] [] tv ?_)
 refine Sq (Dr (decide (((k1 : Nat) : Int) < ((p0.size : Nat) : Int))) ?_ ?_)
 ·intro h15
  have hlt1 : k1 < (Ig p0).length := by have := of_decide_eq_true h15; have := Nz p0; omega
  have hm := hs1 hlt1
  unfold Wl at hm
  refine Sk ?_
  refine Sq (Bk ?_)
  refine Sq (RD hnt (nn 3 []) [9] [(4,.p (vk .u8 ((Ig p0).getD k1 0)))] [] [] (an (nn0 k1) (an (ltc hlt1) tv)) ?_)
  obtain ⟨r16,hr16,hm⟩ := bo hm
  refine Sq (RD hnt (.no :: o30 [] true r16 :: .no :: []) [4] [(14,pB (!r16))] [] [] (an (Adw ((Ig p0).getD k1 0) r16 hr16) tv) ?_)
  refine An hm ?_ ?_
  ·intro h17 hm
   refine Sq (RK hnt (.no :: []) [(2,pB false)] [] tv ?_)
   obtain rfl := sj hm
   exact DW.ret (Ak [] [] (pB false))
  ·intro h17 hm
   refine Sk ?_
   refine DW.done ?_
   show DW _ _ _ _ _
   refine RD hnt (nn 2 []) [14] [(8,pI (w64 (((k1 : Nat) : Int) + 1)))] [] [] tv ?_
   exact jD () ⟨hlt1,hm⟩ (Conv.tp [(8,pI (w64 (((k1 : Nat) : Int) + 1)))] [] (by kernel_rfl) (.cons rfl (.of_eq (congrArg pI (Cs hlt1 hc1))) .nil) .nil)
 ·intro h15
  have hge1 : ¬ k1 < (Ig p0).length := by have := of_decide_eq_false h15; have := Nz p0; omega
  have hm := he1 hge1
  unfold Wo at hm
  refine DW.exit ?_
  refine Al ?_
  refine Ar ?_
  refine Af ?_
  show DW _ _ _ _ _
  refine Sq ?_
  refine Jn (ι := Bool) (fun (y3 : Bool) => Ae [(2,pB y3)] []) (fun y3 => Me y3 = some RES) ?_ ?_
  ·intro y3 hm
   unfold Me at hm
   obtain rfl := sj hm
   exact DW.ret (Ak [] [] (pB y3))
  ·rcases bt (!(Eg p0 ByteArray.empty)) with h18 | h18
   ·replace hm := Bf h18 hm
    rcases bt (decide (((p0.size : Nat) : Int) ≤ 32)) with h19 | h19
    ·replace hm := Bf h19 hm
     obtain ⟨g20,hm⟩ := go1 hm
     refine RK hnt (nn 6 (pT :: nn 4 (pT :: .no :: []))) [(2,pB ((((Bi p0 0) : Nat) : Int) != 45))] [] (an4 h18 (an2 h19 (an (nn0 0) (an (ltc g20) (an2 h19 tv))))) ?_
     exact jD ((((Bi p0 0) : Nat) : Int) != 45) hm .refl
    ·replace hm := Bg h19 hm
     refine RK hnt (nn 6 (pT :: .no :: sk 3 (pF :: .no :: []))) [(2,pB false)] [] (an4 h18 (an4 h19 tv)) ?_
     exact jD false hm .refl
   ·replace hm := Bg h18 hm
    refine RK hnt (nn 3 (sk 3 (pF :: .no :: sk 3 (pF :: .no :: [])))) [(2,pB false)] [] (an4 h18 (an4 ff tv)) ?_
    exact jD false hm .refl
abbrev o29 (ks : List Nat) (b : Bool) (RES : Bool) (sm : List Nat := []) : Orc := .call 90 ks b (pB RES) [] [] sm

abbrev Th (p0 : List Ai) (k1 : Nat) := (p0.getD k1 (default : Ai))
abbrev c28e2 (p1 : Ai) : Nat × Obj := (1024,bx (pm (Bw p1)))
theorem Aes (p0 : List Ai) (p1 : Ai) (RES : Bool) (hm : Ts p0 p1 = some RES) : Spec Try.prog 70 [.p (Cz p0),.p (.agg (Bw p1))] [] (pB RES) [] [] := by
 unfold Ts at hm
 refine SO Try.func70 rfl rfl [(0,.p (Cz p0)),(1,.p (.agg (Bw p1)))] [] ?_
 intro cx hnt
 refine Sq (RD hnt (nn 2 []) [1] [(3,rr 1024)] [] [(c28e2 p1)] tv ?_)
 obtain ⟨g1,hm⟩ := go1 hm
 refine Sq (Sq ?_)
 refine Jn (ι := Bool) (fun (y1 : Bool) => Ae [(0,.p (Cz p0)),(3,rr 1024),(33,pB y1)] [(c28e2 p1)]) (fun y1 => (Jj p0 p1) y1 = some RES) ?_ ?_
 ·intro y1 hm
  unfold Jj at hm
  refine An hm ?_ ?_
  ·intro h6 hm
   refine Sq (RK hnt (.no :: []) [(4,pB false)] [] tv ?_)
   obtain rfl := sj hm
   exact DW.ret (Ak [] [] (pB false))
  ·intro h6 hm
   refine Sk ?_
   refine Sq (RD hnt (.no :: []) [33] [(5,pB false)] [] [] tv ?_)
   refine Sq (Sq (RD hnt (nn 3 []) [0] [(34,.p (Cz p0)),(35,pI ((p0.length : Nat) : Int)),(36,pI 0)] [] [] tv ?_))
   refine Bk ?_
   obtain ⟨hc1,hm⟩ := go1 hm
   refine DW.rangeO (fun (k1 : Nat) (s1 : Bool) => Ae [(3,rr 1024),(5,pB s1),(34,.p (Cz p0)),(35,pI ((p0.length : Nat) : Int)),(36,pI ((k1 : Nat) : Int))] [(c28e2 p1)]) De hm Conv.eqK ?_
   intro k1 s1 n1 hk1 hs1 he1
   refine Sq (RD hnt (.no :: []) [] [(37,pB (decide (((k1 : Nat) : Int) < ((p0.length : Nat) : Int))))] [] [] tv ?_)
   refine Sq (Dr (decide (((k1 : Nat) : Int) < ((p0.length : Nat) : Int))) ?_ ?_)
   ·intro h16
    have hlt1 : k1 < p0.length := by have := of_decide_eq_true h16; omega
    have hm := hs1 hlt1
    unfold Ye at hm
    refine Sk ?_
    refine Sq (Bk ?_)
    refine Sq (RD hnt (nn 4 []) [37] [(7,rr 1056)] [] [(1056,bx (pm (Bw (Th p0 k1))))] (an (nn0 k1) (an (ltc hlt1) tv)) ?_)
    refine Sq (DW.regJ (sl2 := [(3,rr 1024),(5,pB (s1 || ((Th p0 k1).id == p1.parent))),(7,rr 1056),(34,.p (Cz p0)),(35,pI ((p0.length : Nat) : Int)),(36,pI ((k1 : Nat) : Int))]) (ob2 := [(c28e2 p1),(1056,bx (pm (Bw (Th p0 k1))))]) ?_ ?_)
    ·rcases bt s1 with h17 | h17
     ·exact RT hnt (nn 2 (sk 5 (pT :: .no :: []))) [(5,pB true)] (an6 h17 tv) (by kernel_rfl) (.cons rfl (.of_eq (by rw [h17]; try rfl)) .nil)
     ·exact RT hnt (nn 7 (pF :: .no :: [])) [(5,pB ((Th p0 k1).id == p1.parent))] (an6 h17 tv) (by kernel_rfl) (.cons rfl (.of_eq (by rw [h17]; try rfl)) .nil)
    ·refine Sq (DW.regJ (sl2 := [(3,rr 1024),(5,pB (s1 || ((Th p0 k1).id == p1.parent))),(34,.p (Cz p0)),(35,pI ((p0.length : Nat) : Int)),(36,pI ((k1 : Nat) : Int)),(59,pB (((Th p0 k1).parent == p1.parent) && (Eg (Th p0 k1).name p1.name)))]) (ob2 := [(c28e2 p1)]) ?_ ?_)
     ·rcases bt ((Th p0 k1).parent == p1.parent) with h18 | h18
      ·exact RT hnt (nn 11 (pT :: [])) [(59,pB (Eg (Th p0 k1).name p1.name))] (an6 h18 tv) (by kernel_rfl) (.cons rfl (.of_eq (by rw [h18]; try rfl)) .nil)
      ·exact RT hnt (nn 6 (sk 5 (pF :: []))) [(59,pB false)] (an6 h18 tv) (by kernel_rfl) (.cons rfl (.of_eq (by rw [h18]; try rfl)) .nil)
     ·refine An hm ?_ ?_
      ·intro h19 hm
       refine Sq (RK hnt (.no :: []) [(4,pB false)] [] tv ?_)
       obtain rfl := sj hm
       exact DW.ret (Ak [] [] (pB false))
      ·intro h19 hm
       refine Sk ?_
       refine DW.done ?_
       show DW _ _ _ _ _
       refine RD hnt (nn 2 []) [59] [(36,pI (w64 (((k1 : Nat) : Int) + 1)))] [] [] tv ?_
       exact jD (s1 || ((Th p0 k1).id == p1.parent)) ⟨hlt1,hm⟩ (Conv.tp [(36,pI (w64 (((k1 : Nat) : Int) + 1)))] [] (by kernel_rfl) (.cons rfl (.of_eq (congrArg pI (Cs hlt1 hc1))) .nil) .nil)
   ·intro h16
    have hge1 : ¬ k1 < p0.length := by have := of_decide_eq_false h16; omega
    have hm := he1 hge1
    unfold AbU at hm
    refine DW.exit ?_
    refine Al ?_
    refine Ar ?_
    refine Af ?_
    show DW _ _ _ _ _
    refine Sq (RK hnt (nn 2 []) [(4,pB s1)] [] tv ?_)
    obtain rfl := sj hm
    exact DW.ret (Ak [] [] (pB s1))
 ·rcases bt (decide (p1.id ≤ (p0.getD (Int.toNat (w64 (((p0.length : Nat) : Int) - 1))) De).id)) with h2 | h2
  ·replace hm := Bf h2 hm
   refine RD hnt (nn 11 (sk 4 (pT :: .no :: sk 8 (pT :: [])))) [] [(33,pB true)] [] [] (an g1.1 (an g1.2 (an5 h2 (an6 tt tv)))) ?_
   exact jD true hm Conv.eqK
  ·replace hm := Bg h2 hm
   obtain ⟨r3,hr3,hm⟩ := bo hm
   rcases bt (!r3) with h4 | h4
   ·replace hm := Bf h4 hm
    refine RD hnt (nn 13 (o29 [] true r3 :: .no :: pF :: .no :: sk 8 (pT :: []))) [] [(33,pB true)] [] [] (an g1.1 (an g1.2 (an3 h2 (an (Tg p1.name r3 hr3) (an2 h2 (an6 h4 tv)))))) ?_
    exact jD true hm Conv.eqK
   ·replace hm := Bg h4 hm
    rcases bt (p1.kind != 0) with h5 | h5
    ·replace hm := Bf h5 hm
     refine RD hnt (nn 13 (o29 [] true r3 :: .no :: pF :: nn 8 (pT :: pF :: []))) [] [(33,pB (p1.kind != 1))] [] [] (an g1.1 (an g1.2 (an3 h2 (an (Tg p1.name r3 hr3) (an2 h2 (an4 h4 (an3 h5 (an h4 (an h5 (an h4 tv)))))))))) ?_
     exact jD (p1.kind != 1) hm Conv.eqK
    ·replace hm := Bg h5 hm
     refine RD hnt (nn 13 (o29 [] true r3 :: .no :: pF :: nn 5 (sk 3 (pF :: pF :: [])))) [] [(33,pB false)] [] [] (an g1.1 (an g1.2 (an3 h2 (an (Tg p1.name r3 hr3) (an2 h2 (an4 h4 (an3 h5 (an h4 (an h5 (an h4 tv)))))))))) ?_
     exact jD false hm Conv.eqK
abbrev o28 (ks : List Nat) (b : Bool) (RES : Bool) (sm : List Nat := []) : Orc := .call 70 ks b (pB RES) [] [] sm

abbrev Lx (p0 : Ac) (k1 : Nat) := (p0.nodes.getD k1 (default : Ai))
abbrev c26e2 (s1 : IMap Int) (p0 : Ac) (k1 : Nat) := (s1.set (Lx p0 k1).id (w64 ((s1.get (Lx p0 k1).parent) + 1)))
abbrev c26e3 (p0 : Ac) : Nat × MV := (27,pI ((p0.nodes.length : Nat) : Int))
abbrev c26e4 (p0 : Ac) : Nat × Obj := (1008,bx (pm (Am p0)))
theorem Yp (p0 : Ac) (RES : Bool) (hm : Nd p0 = some RES) : Spec Try.prog 49 [.p (.agg (Am p0))] [] (pB RES) [] [] := by
 unfold Nd at hm
 refine SO Try.func49 rfl rfl [(0,.p (.agg (Am p0)))] [] ?_
 intro cx hnt
 refine Sq (RK hnt (nn 2 []) [(1,rr 1008)] [(c26e4 p0)] tv ?_)
 refine Sq (Sq ?_)
 refine Jn (ι := Bool) (fun (y1 : Bool) => Ae [(1,rr 1008),(23,pB y1)] [(c26e4 p0)]) (fun y1 => (Ma p0) y1 = some RES) ?_ ?_
 ·intro y1 hm
  unfold Ma at hm
  refine An hm ?_ ?_
  ·intro h5 hm
   refine Sq (RK hnt (.no :: []) [(2,pB false)] [] tv ?_)
   obtain rfl := sj hm
   exact DW.ret (Ak [] [] (pB false))
  ·intro h5 hm
   refine Sk ?_
   refine Sq (RD hnt (nn 2 []) [23] [(3,.mref 1192 0)] [] [(1192,ob0 (Bv vi (vi 0) (IMap.empty 0)))] tv ?_)
   refine Sq (Sq (RD hnt (nn 4 []) [] [(26,.p (Cz p0.nodes)),(c26e3 p0),(28,pI 0)] [] [] tv ?_))
   refine Bk ?_
   obtain ⟨hc1,hm⟩ := go1 hm
   refine DW.rangeO (fun (k1 : Nat) (s1 : IMap Int) => Ae [(1,rr 1008),(3,.mref 1192 0),(26,.p (Cz p0.nodes)),(c26e3 p0),(28,pI ((k1 : Nat) : Int))] [(c26e4 p0),(1192,ob0 (Bv vi (vi 0) s1))]) De hm Conv.eqK ?_
   intro k1 s1 n1 hk1 hs1 he1
   refine Sq (RD hnt (.no :: []) [] [(29,pB (decide (((k1 : Nat) : Int) < ((p0.nodes.length : Nat) : Int))))] [] [] tv ?_)
   refine Sq (Dr (decide (((k1 : Nat) : Int) < ((p0.nodes.length : Nat) : Int))) ?_ ?_)
   ·intro h36
    have hlt1 : k1 < p0.nodes.length := by have := of_decide_eq_true h36; omega
    have hm := hs1 hlt1
    unfold Wd at hm
    refine Sk ?_
    refine Sq (Bk ?_)
    refine Sq (RD hnt (nn 6 []) [29] [(4,pI ((k1 : Nat) : Int)),(5,rr 1040)] [] [(1040,bx (pm (Bw (Lx p0 k1))))] (an (nn0 k1) (an (ltc hlt1) tv)) ?_)
    refine Sq (Sq ?_)
    refine Jn (ι := Bool) (fun (y8 : Bool) => Ae [(1,rr 1008),(3,.mref 1192 0),(4,pI ((k1 : Nat) : Int)),(5,rr 1040),(26,.p (Cz p0.nodes)),(c26e3 p0),(28,pI ((k1 : Nat) : Int)),(64,pB y8)] [(c26e4 p0),(1040,bx (pm (Bw (Lx p0 k1)))),(1192,ob0 (Bv vi (vi 0) s1))]) (fun y8 => (Gp k1 (Lx p0 k1) s1 n1) y8 = some RES) ?_ ?_
    ·intro y8 hm
     unfold Gp at hm
     refine An hm ?_ ?_
     ·intro h44 hm
      refine Sq (RK hnt (.no :: []) [(2,pB false)] [] tv ?_)
      obtain rfl := sj hm
      exact DW.ret (Ak [] [] (pB false))
     ·intro h44 hm
      refine Sk ?_
      refine Sq (Sq (RD hnt (nn 2 []) [4,64] [(66,pB (decide (((k1 : Nat) : Int) > 0)))] [] [] tv ?_))
      refine Jn (ι := IMap Int) (fun (y9 : IMap Int) => Ae [(1,rr 1008),(3,.mref 1192 0),(5,rr 1040),(26,.p (Cz p0.nodes)),(c26e3 p0),(28,pI ((k1 : Nat) : Int))] [(c26e4 p0),(1040,bx (pm (Bw (Lx p0 k1)))),(1192,ob0 (Bv vi (vi 0) y9))]) (fun y9 => (Pe (Lx p0 k1) n1) y9 = some RES) ?_ ?_
      ·intro y9 hm
       unfold Pe at hm
       refine Sq (RD hnt (nn 5 []) [5] [(79,pB (decide ((y9.get (Lx p0 k1).id) > 8)))] [1040] [] (an (PLe.rfl : PLe (vi 0) (vi 0)) tv) ?_)
       refine An hm ?_ ?_
       ·intro h46 hm
        refine Sq (RK hnt (.no :: []) [(2,pB false)] [] tv ?_)
        obtain rfl := sj hm
        exact DW.ret (Ak [] [] (pB false))
       ·intro h46 hm
        refine Sk ?_
        refine DW.done ?_
        show DW _ _ _ _ _
        refine RD hnt (nn 2 []) [79] [(28,pI (w64 (((k1 : Nat) : Int) + 1)))] [] [] tv ?_
        exact jD y9 ⟨hlt1,hm⟩ (Conv.tp [(28,pI (w64 (((k1 : Nat) : Int) + 1)))] [] (by kernel_rfl) (.cons rfl (.of_eq (congrArg pI (Cs hlt1 hc1))) .nil) .nil)
      ·refine An hm ?_ ?_
       ·intro h45 hm
        refine RD hnt (nn 8 (.asM (vi 0) (c26e2 s1 p0 k1).has (fun j => vi ((c26e2 s1 p0 k1).get j)) :: [])) [66] [] [] [(1192,ob0 (Bv vi (vi 0) (c26e2 s1 p0 k1)))] (an (PLe.rfl : PLe (vi 0) (vi 0)) (an (Vm vi (vi 0) s1 (Lx p0 k1).id (w64 ((s1.get (Lx p0 k1).parent) + 1)) PLe.rfl) tv)) ?_
        exact jD (c26e2 s1 p0 k1) hm Conv.eqK
       ·intro h45 hm
        refine Sk ?_
        exact jD s1 hm Conv.t0
    ·rcases bt (decide ((Lx p0 k1).control < 0)) with h37 | h37
     ·replace hm := Bf h37 hm
      refine RD hnt (nn 4 (sk 4 (pT :: .no :: sk 3 (pT :: .no :: sk 3 (pT :: .no :: sk 11 (pT :: [])))))) [] [(64,pB true)] [] [] (an5 h37 (an tt (an6 tt (an6 tt tv)))) ?_
      exact jD true hm Conv.eqK
     ·replace hm := Bg h37 hm
      rcases bt ((Tb .i64 (Lx p0 k1).control 31) != 0) with h38 | h38
      ·replace hm := Bf h38 hm
       refine RD hnt (nn 8 (pF :: .no :: sk 3 (pT :: .no :: sk 3 (pT :: .no :: sk 11 (pT :: []))))) [] [(64,pB true)] [] [] (an5 h37 (an4 h38 (an3 tt (an6 tt tv)))) ?_
       exact jD true hm Conv.eqK
      ·replace hm := Bg h38 hm
       rcases bt (decide ((Lx p0 k1).owner < 0)) with h39 | h39
       ·replace hm := Bf h39 hm
        refine RD hnt (nn 8 (pF :: nn 4 (pF :: .no :: sk 3 (pT :: .no :: sk 11 (pT :: []))))) [] [(64,pB true)] [] [] (an5 h37 (an4 h38 (an4 h39 (an5 tt tv)))) ?_
        exact jD true hm Conv.eqK
       ·replace hm := Bg h39 hm
        rcases bt (decide ((Lx p0 k1).owner > 1048576)) with h40 | h40
        ·replace hm := Bf h40 hm
         refine RD hnt (nn 8 (pF :: nn 4 (pF :: nn 4 (pF :: .no :: sk 11 (pT :: []))))) [] [(64,pB true)] [] [] (an5 h37 (an4 h38 (an4 h39 (an5 h40 tv)))) ?_
         exact jD true hm Conv.eqK
        ·replace hm := Bg h40 hm
         rcases bt (decide (((k1 : Nat) : Int) > 0)) with h41 | h41
         ·replace hm := Bf h41 hm
          obtain ⟨g42,hm⟩ := go1 hm
          obtain ⟨r43,hr43,hm⟩ := bo hm
          refine RD hnt (nn 8 (pF :: nn 4 (pF :: nn 4 (pF :: nn 9 (o28 [] true r43 :: .no :: pT :: pF :: []))))) [] [(64,pB (!r43))] [] [] (an5 h37 (an4 h38 (an4 h39 (an3 h40 (an4 h41 (an (by omega : (0 : Int) ≤ 0) (an (by omega : (0 : Int) ≤ ((k1 : Nat) : Int)) (an (by omega : ((k1 : Nat) : Int) ≤ ((p0.nodes.length : Nat) : Int)) (an2 h41 (an (Spec.args (xs := [.p (.sl .unk 6 k1 (Ub p0.nodes)),.p (.agg (Bw (Lx p0 k1)))]) (Aes (p0.nodes.take k1) (Lx p0 k1) r43 hr43) (.cons (.p (PLe.typed (RowIs.elems.take (by omega)))) (.cons .rfl .nil))) (an h41 (an h40 (an h41 (an h40 tv)))))))))))))) ?_
          exact jD (!r43) hm Conv.eqK
         ·replace hm := Bg h41 hm
          refine RD hnt (nn 8 (pF :: nn 4 (pF :: nn 4 (pF :: nn 4 (sk 7 (pF :: pF :: [])))))) [] [(64,pB false)] [] [] (an5 h37 (an4 h38 (an4 h39 (an3 h40 (an h41 (an6 h41 (an h40 (an h41 (an h40 tv))))))))) ?_
          exact jD false hm Conv.eqK
   ·intro h36
    have hge1 : ¬ k1 < p0.nodes.length := by have := of_decide_eq_false h36; omega
    have hm := he1 hge1
    unfold Wr at hm
    refine DW.exit ?_
    refine Al ?_
    refine Ar ?_
    refine Af ?_
    show DW _ _ _ _ _
    obtain ⟨g47,hm⟩ := go1 hm
    refine Sq ?_
    refine Jn (ι := Bool) (fun (y10 : Bool) => Ae [(2,pB y10)] []) (fun y10 => Ny y10 = some RES) ?_ ?_
    ·intro y10 hm
     unfold Ny at hm
     obtain rfl := sj hm
     exact DW.ret (Ak [] [] (pB y10))
    ·rcases bt (decide (p0.next > (p0.nodes.getD (Int.toNat (w64 (((p0.nodes.length : Nat) : Int) - 1))) De).id)) with h48 | h48
     ·replace hm := Bf h48 hm
      refine RK hnt (nn 16 (pT :: .no :: [])) [(2,pB (decide (p0.next ≤ 2147483648)))] [] (an g47.1 (an g47.2 (an4 h48 tv))) ?_
      exact jD (decide (p0.next ≤ 2147483648)) hm .refl
     ·replace hm := Bg h48 hm
      refine RK hnt (nn 13 (sk 3 (pF :: .no :: []))) [(2,pB false)] [] (an g47.1 (an g47.2 (an4 h48 tv))) ?_
      exact jD false hm .refl
 ·rcases bt (decide (((p0.nodes.length : Nat) : Int) < 1)) with h1 | h1
  ·replace hm := Bf h1 hm
   refine RD hnt (nn 5 (sk 4 (pT :: .no :: sk 6 (pT :: [])))) [] [(23,pB true)] [] [] (an5 h1 (an tt (an6 tt tv))) ?_
   exact jD true hm Conv.eqK
  ·replace hm := Bg h1 hm
   rcases bt (decide (((p0.nodes.length : Nat) : Int) > 64)) with h2 | h2
   ·replace hm := Bf h2 hm
    refine RD hnt (nn 9 (pF :: .no :: sk 6 (pT :: []))) [] [(23,pB true)] [] [] (an5 h1 (an h2 (an6 h2 tv))) ?_
    exact jD true hm Conv.eqK
   ·replace hm := Bg h2 hm
    obtain ⟨g3,hm⟩ := go1 hm
    obtain ⟨r4,hr4,hm⟩ := bo hm
    refine RD hnt (nn 9 (pF :: nn 5 (o27 [] true r4 :: .no :: pF :: []))) [] [(23,pB (!r4))] [] [] (an5 h1 (an3 h2 (an (nn0 0) (an (ltc g3) (an2 h2 (an (Aeb (p0.nodes.getD 0 De) r4 hr4) (an2 h2 tv))))))) ?_
    exact jD (!r4) hm Conv.eqK
abbrev o26 (ks : List Nat) (b : Bool) (RES : Bool) (sm : List Nat := []) : Orc := .call 49 ks b (pB RES) [] [] sm

theorem Aa (p0 : Int) (p1 : Int) (p2 : Int) (RES : Bool) (hm : Ck p0 p1 p2 = some RES) : Spec Try.prog 71 [pI p0,pI p1,pI p2] [] (pB RES) [] [] := by
 unfold Ck at hm
 refine SO Try.func71 rfl rfl [(0,pI p0),(1,pI p1),(2,pI p2)] [] ?_
 intro cx hnt
 refine Sq (RD hnt (.no :: []) [] [] [] [] tv ?_)
 refine Sq (DW.regJ (sl2 := [(6,pB ((decide (p0 ≥ p1)) && (decide (p0 ≤ p2))))]) (ob2 := []) ?_ ?_)
 ·rcases bt (decide (p0 ≥ p1)) with h1 | h1
  ·exact RT hnt (nn 7 (pT :: .no :: [])) [(6,pB (decide (p0 ≤ p2)))] (an4 h1 tv) (by kernel_rfl) (.cons rfl (.of_eq (by rw [h1]; try rfl)) .nil)
  ·exact RT hnt (nn 4 (sk 3 (pF :: .no :: []))) [(6,pB false)] (an4 h1 tv) (by kernel_rfl) (.cons rfl (.of_eq (by rw [h1]; try rfl)) .nil)
 ·refine DW.ret ?_
  obtain rfl := sj hm
  exact Ak [] [] (pB ((decide (p0 ≥ p1)) && (decide (p0 ≤ p2))))
abbrev o32 (ks : List Nat) (b : Bool) (RES : Bool) (sm : List Nat := []) : Orc := .call 71 ks b (pB RES) [] [] sm

theorem Bh (p0 : As) (RES : Bool) (hm : Hs p0 = some RES) : Spec Try.prog 72 [.p (.agg (Em p0))] [] (pB RES) [] [] := by
 unfold Hs at hm
 refine SO Try.func72 rfl rfl [(0,.p (.agg (Em p0)))] [] ?_
 intro cx hnt
 refine Sq (RK hnt (nn 2 []) [(1,rr 1008)] [(1008,bx (pm (Em p0)))] tv ?_)
 refine Sq (Sq (RD hnt (nn 3 []) [] [(5,pB (p0.quota == 4611686018427387904))] [] [] tv ?_))
 refine An hm ?_ ?_
 ·intro h1 hm
  obtain ⟨r2,hr2,hm⟩ := bo hm
  refine Sq ?_
  refine Jn (ι := Bool) (fun (y1 : Bool) => Ae [(2,pB y1)] []) (fun y1 => Ik y1 = some RES) ?_ ?_
  ·intro y1 hm
   unfold Ik at hm
   obtain rfl := sj hm
   exact DW.ret (Ak [] [] (pB y1))
  ·rcases bt r2 with h3 | h3
   ·replace hm := Bf h3 hm
    refine RK hnt (nn 2 (o32 [] true r2 :: nn 4 (pT :: .no :: []))) [(2,pB (p0.burst == 0))] [] (an (Aa p0.period 1 1000000 r2 hr2) (an4 h3 tv)) ?_
    exact jD (p0.burst == 0) hm .refl
   ·replace hm := Bg h3 hm
    refine RK hnt (nn 2 (o32 [] true r2 :: .no :: sk 3 (pF :: .no :: []))) [(2,pB false)] [] (an (Aa p0.period 1 1000000 r2 hr2) (an4 h3 tv)) ?_
    exact jD false hm .refl
 ·intro h1 hm
  refine Sk ?_
  obtain ⟨r4,hr4,hm⟩ := bo hm
  refine Sq ?_
  refine Jn (ι := Bool) (fun (y2 : Bool) => Ae [(2,pB y2)] []) (fun y2 => Gz y2 = some RES) ?_ ?_
  ·intro y2 hm
   unfold Gz at hm
   obtain rfl := sj hm
   exact DW.ret (Ak [] [] (pB y2))
  ·rcases bt r4 with h5 | h5
   ·replace hm := Bf h5 hm
    obtain ⟨r6,hr6,hm⟩ := bo hm
    rcases bt r6 with h7 | h7
    ·replace hm := Bf h7 hm
     obtain ⟨r8,hr8,hm⟩ := bo hm
     refine RK hnt (nn 2 (o32 [] true r4 :: nn 3 (o32 [] true r6 :: pT :: nn 5 (o32 [] true r8 :: pT :: .no :: [])))) [(2,pB r8)] [] (an (Aa p0.period 1 1000000 r4 hr4) (an3 h5 (an (Aa p0.quota 1 1000000 r6 hr6) (an h5 (an5 h7 (an (Aa p0.burst 0 p0.quota r8 hr8) (an h7 tv))))))) ?_
     exact jD r8 hm .refl
    ·replace hm := Bg h7 hm
     refine RK hnt (nn 2 (o32 [] true r4 :: nn 3 (o32 [] true r6 :: pT :: .no :: sk 5 (pF :: .no :: [])))) [(2,pB false)] [] (an (Aa p0.period 1 1000000 r4 hr4) (an3 h5 (an (Aa p0.quota 1 1000000 r6 hr6) (an h5 (an6 h7 tv))))) ?_
     exact jD false hm .refl
   ·replace hm := Bg h5 hm
    refine RK hnt (nn 2 (o32 [] true r4 :: .no :: sk 3 (pF :: .no :: sk 5 (pF :: .no :: [])))) [(2,pB false)] [] (an (Aa p0.period 1 1000000 r4 hr4) (an4 h5 (an6 ff tv))) ?_
    exact jD false hm .refl
abbrev o33 (ks : List Nat) (b : Bool) (RES : Bool) (sm : List Nat := []) : Orc := .call 72 ks b (pB RES) [] [] sm

theorem Cg (p0 : List Int) (p1 : Int) (RES : Bool) (hm : Jf p0 p1 = some RES) : Spec Try.prog 38 [.p (slI p0),pI p1] [] (pB RES) [] [] := by
 unfold Jf at hm
 refine SO Try.func38 rfl rfl [(0,.p (slI p0)),(1,pI p1)] [] ?_
 intro cx hnt
 refine Sq (RD hnt (.no :: []) [] [] [] [] tv ?_)
 refine Sq (Sq (RD hnt (nn 3 []) [] [(7,.p (slI p0)),(8,pI ((p0.length : Nat) : Int)),(9,pI 0)] [] [] tv ?_))
 refine Bk ?_
 obtain ⟨hc1,hm⟩ := go1 hm
 refine DW.rangeO (fun (k1 : Nat) (s1 : Unit) => Ae [(0,.p (slI p0)),(1,pI p1),(7,.p (slI p0)),(8,pI ((p0.length : Nat) : Int)),(9,pI ((k1 : Nat) : Int))] []) 0 hm Conv.eqK ?_
 intro k1 s1 n1 hk1 hs1 he1
 refine Sq (RD hnt (.no :: []) [] [(10,pB (decide (((k1 : Nat) : Int) < ((p0.length : Nat) : Int))))] [] [] tv ?_)
 refine Sq (Dr (decide (((k1 : Nat) : Int) < ((p0.length : Nat) : Int))) ?_ ?_)
 ·intro h15
  have hlt1 : k1 < p0.length := by have := of_decide_eq_true h15; omega
  have hm := hs1 hlt1
  unfold Vu at hm
  refine Sk ?_
  refine Sq (Bk ?_)
  refine Sq (RD hnt (nn 5 []) [10] [(5,pI ((k1 : Nat) : Int)),(6,pI (p0.getD k1 0))] [] [] (an (nn0 k1) (an (ltc hlt1) tv)) ?_)
  refine Sq ?_
  refine Jn (ι := Bool) (fun (y3 : Bool) => Ae [(0,.p (slI p0)),(1,pI p1),(7,.p (slI p0)),(8,pI ((p0.length : Nat) : Int)),(9,pI ((k1 : Nat) : Int)),(33,pB y3)] []) (fun y3 => (Kw n1) y3 = some RES) ?_ ?_
  ·intro y3 hm
   unfold Kw at hm
   refine An hm ?_ ?_
   ·intro h20 hm
    refine Sq (RK hnt (.no :: []) [(4,pB false)] [] tv ?_)
    obtain rfl := sj hm
    exact DW.ret (Ak [] [] (pB false))
   ·intro h20 hm
    refine Sk ?_
    refine DW.done ?_
    show DW _ _ _ _ _
    refine RD hnt (nn 2 []) [33] [(9,pI (w64 (((k1 : Nat) : Int) + 1)))] [] [] tv ?_
    exact jD () ⟨hlt1,hm⟩ (Conv.tp [(9,pI (w64 (((k1 : Nat) : Int) + 1)))] [] (by kernel_rfl) (.cons rfl (.of_eq (congrArg pI (Cs hlt1 hc1))) .nil) .nil)
  ·rcases bt (decide ((p0.getD k1 0) < 0)) with h16 | h16
   ·replace hm := Bf h16 hm
    refine RD hnt (nn 3 (sk 3 (pT :: .no :: sk 11 (pT :: [])))) [5,6] [(33,pB true)] [] [] (an4 h16 (an5 tt tv)) ?_
    exact jD true hm Conv.eqK
   ·replace hm := Bg h16 hm
    rcases bt (decide ((p0.getD k1 0) ≥ p1)) with h17 | h17
    ·replace hm := Bf h17 hm
     refine RD hnt (nn 6 (pF :: .no :: sk 11 (pT :: []))) [5,6] [(33,pB true)] [] [] (an4 h16 (an5 h17 tv)) ?_
     exact jD true hm Conv.eqK
    ·replace hm := Bg h17 hm
     rcases bt (decide (((k1 : Nat) : Int) > 0)) with h18 | h18
     ·replace hm := Bf h18 hm
      obtain ⟨g19,hm⟩ := go1 hm
      refine RD hnt (nn 6 (pF :: nn 11 (pT :: pF :: []))) [5,6] [(33,pB (decide ((p0.getD k1 0) ≤ (p0.getD (Int.toNat (w64 (((k1 : Nat) : Int) - 1))) 0))))] [] [] (an4 h16 (an3 h17 (an5 h18 (an g19.1 (an g19.2 (an2 h18 (an h17 (an h18 (an h17 tv))))))))) ?_
      exact jD (decide ((p0.getD k1 0) ≤ (p0.getD (Int.toNat (w64 (((k1 : Nat) : Int) - 1))) 0))) hm Conv.eqK
     ·replace hm := Bg h18 hm
      refine RD hnt (nn 6 (pF :: nn 4 (sk 7 (pF :: pF :: [])))) [5,6] [(33,pB false)] [] [] (an4 h16 (an3 h17 (an h18 (an6 h18 (an h17 (an h18 (an h17 tv))))))) ?_
      exact jD false hm Conv.eqK
 ·intro h15
  have hge1 : ¬ k1 < p0.length := by have := of_decide_eq_false h15; omega
  have hm := he1 hge1
  unfold AaX at hm
  refine DW.exit ?_
  refine Al ?_
  refine Ar ?_
  refine Af ?_
  show DW _ _ _ _ _
  refine Sq (RK hnt (.no :: []) [(4,pB true)] [] tv ?_)
  obtain rfl := sj hm
  exact DW.ret (Ak [] [] (pB true))
abbrev o34 (ks : List Nat) (b : Bool) (RES : Bool) (sm : List Nat := []) : Orc := .call 38 ks b (pB RES) [] [] sm

theorem Ag (p0 : Int) (p1 : Int) (p2 : Int) (RES : Bool) (hm : Ew p0 p1 p2 = some RES) : Spec Try.prog 91 [pI p0,pI p1,pI p2] [] (pB RES) [] [] := by
 unfold Ew at hm
 refine SO Try.func91 rfl rfl [(0,pI p0),(1,pI p1),(2,pI p2)] [] ?_
 intro cx hnt
 refine Sq (RD hnt (.no :: []) [] [] [] [] tv ?_)
 refine Sq (DW.regJ (sl2 := [(6,pB (((decide (p0 ≥ p1)) && (decide (p0 ≤ p2))) || (p0 == 4611686018427387904)))]) (ob2 := []) ?_ ?_)
 ·rcases bt (decide (p0 ≥ p1)) with h1 | h1
  ·rcases bt (decide (p0 ≤ p2)) with h2 | h2
   ·exact RT hnt (nn 7 (pT :: .no :: sk 2 (pT :: .no :: []))) [(6,pB true)] (an4 h1 (an3 h2 tv)) (by kernel_rfl) (.cons rfl (.of_eq (by rw [h1,h2]; try rfl)) .nil)
   ·exact RT hnt (nn 7 (pT :: nn 3 (pF :: .no :: []))) [(6,pB (p0 == 4611686018427387904))] (an4 h1 (an3 h2 tv)) (by kernel_rfl) (.cons rfl (.of_eq (by rw [h1,h2]; try rfl)) .nil)
  ·exact RT hnt (nn 4 (sk 3 (pF :: nn 3 (pF :: .no :: [])))) [(6,pB (p0 == 4611686018427387904))] (an4 h1 (an3 ff tv)) (by kernel_rfl) (.cons rfl (.of_eq (by rw [h1]; try rfl)) .nil)
 ·refine DW.ret ?_
  obtain rfl := sj hm
  exact Ak [] [] (pB (((decide (p0 ≥ p1)) && (decide (p0 ≤ p2))) || (p0 == 4611686018427387904)))
abbrev o36 (ks : List Nat) (b : Bool) (RES : Bool) (sm : List Nat := []) : Orc := .call 91 ks b (pB RES) [] [] sm

theorem Lc (p0 : Gw) (RES : Bool) (hm : Fp p0 = some RES) : Spec Try.prog 73 [.p (.agg (Kb p0))] [] (pB RES) [] [] := by
 unfold Fp at hm
 refine SO Try.func73 rfl rfl [(0,.p (.agg (Kb p0)))] [] ?_
 intro cx hnt
 refine Sq (RK hnt (nn 2 []) [(1,rr 1008)] [(1008,bx (pm (Kb p0)))] tv ?_)
 obtain ⟨r1,hr1,hm⟩ := bo hm
 refine Sq ?_
 refine Jn (ι := Bool) (fun (y1 : Bool) => Ae [(2,pB y1)] []) (fun y1 => Ge y1 = some RES) ?_ ?_
 ·intro y1 hm
  unfold Ge at hm
  obtain rfl := sj hm
  exact DW.ret (Ak [] [] (pB y1))
 ·rcases bt r1 with h2 | h2
  ·replace hm := Bf h2 hm
   obtain ⟨r3,hr3,hm⟩ := bo hm
   rcases bt r3 with h4 | h4
   ·replace hm := Bf h4 hm
    obtain ⟨r5,hr5,hm⟩ := bo hm
    rcases bt r5 with h6 | h6
    ·replace hm := Bf h6 hm
     obtain ⟨r7,hr7,hm⟩ := bo hm
     rcases bt r7 with h8 | h8
     ·replace hm := Bf h8 hm
      obtain ⟨r9,hr9,hm⟩ := bo hm
      refine RK hnt (nn 2 (o36 [] true r1 :: nn 3 (o36 [] true r3 :: pT :: nn 3 (o36 [] true r5 :: pT :: nn 3 (o36 [] true r7 :: pT :: nn 3 (o36 [] true r9 :: pT :: .no :: [])))))) [(2,pB r9)] [] (an (Ag p0.min 0 1099511627776 r1 hr1) (an3 h2 (an (Ag p0.low 0 1099511627776 r3 hr3) (an h2 (an3 h4 (an (Ag p0.high 0 1099511627776 r5 hr5) (an h4 (an3 h6 (an (Ag p0.max 0 1099511627776 r7 hr7) (an h6 (an3 h8 (an (Ag p0.swapMax 0 1099511627776 r9 hr9) (an h8 tv))))))))))))) ?_
      exact jD r9 hm .refl
     ·replace hm := Bg h8 hm
      refine RK hnt (nn 2 (o36 [] true r1 :: nn 3 (o36 [] true r3 :: pT :: nn 3 (o36 [] true r5 :: pT :: nn 3 (o36 [] true r7 :: pT :: .no :: sk 3 (pF :: .no :: [])))))) [(2,pB false)] [] (an (Ag p0.min 0 1099511627776 r1 hr1) (an3 h2 (an (Ag p0.low 0 1099511627776 r3 hr3) (an h2 (an3 h4 (an (Ag p0.high 0 1099511627776 r5 hr5) (an h4 (an3 h6 (an (Ag p0.max 0 1099511627776 r7 hr7) (an h6 (an4 h8 tv))))))))))) ?_
      exact jD false hm .refl
    ·replace hm := Bg h6 hm
     refine RK hnt (nn 2 (o36 [] true r1 :: nn 3 (o36 [] true r3 :: pT :: nn 3 (o36 [] true r5 :: pT :: .no :: sk 3 (pF :: .no :: sk 3 (pF :: .no :: [])))))) [(2,pB false)] [] (an (Ag p0.min 0 1099511627776 r1 hr1) (an3 h2 (an (Ag p0.low 0 1099511627776 r3 hr3) (an h2 (an3 h4 (an (Ag p0.high 0 1099511627776 r5 hr5) (an h4 (an4 h6 (an4 ff tv))))))))) ?_
     exact jD false hm .refl
   ·replace hm := Bg h4 hm
    refine RK hnt (nn 2 (o36 [] true r1 :: nn 3 (o36 [] true r3 :: pT :: .no :: sk 3 (pF :: .no :: sk 3 (pF :: .no :: sk 3 (pF :: .no :: [])))))) [(2,pB false)] [] (an (Ag p0.min 0 1099511627776 r1 hr1) (an3 h2 (an (Ag p0.low 0 1099511627776 r3 hr3) (an h2 (an4 h4 (an2 ff (an6 ff tv))))))) ?_
    exact jD false hm .refl
  ·replace hm := Bg h2 hm
   refine RK hnt (nn 2 (o36 [] true r1 :: .no :: sk 3 (pF :: .no :: sk 3 (pF :: .no :: sk 3 (pF :: .no :: sk 3 (pF :: .no :: [])))))) [(2,pB false)] [] (an (Ag p0.min 0 1099511627776 r1 hr1) (an4 h2 (an6 ff (an6 ff tv)))) ?_
   exact jD false hm .refl
abbrev o35 (ks : List Nat) (b : Bool) (RES : Bool) (sm : List Nat := []) : Orc := .call 73 ks b (pB RES) [] [] sm
end Go.Dm

