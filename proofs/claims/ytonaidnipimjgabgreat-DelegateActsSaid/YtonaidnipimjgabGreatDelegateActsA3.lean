/- Texts of the proof of DelegateActs: the data machine, the models of the Go functions, their contracts. -/
import Derived.Test.YtonaidnipimjgabGreatDelegateActsA2
import Derived.Test.YtonaidnipimjgabGreatProg
import Derived.Test.YtonaidnipimjgabGreatDelegateActsA1
set_option linter.unusedVariables false
set_option linter.unusedSimpArgs false
/- Plain theory, part 24: kinds of groups, domains, what fits. -/
namespace Go.Dm
def At (t : Af) (a : Int) : Ah := (Hr t a).getD zN
def Dj (t : Af) (a : Int) : Bool := (At t a).kind == 1
def Tf (t : Af) (id : Int) : Bool := ((upT t id).find? (Dj t)).elim false (fun x => x != id)
def Gw (t : Af) (id : Int) : Int := ((upT t id).find? (fun a => !Dj t a)).getD 0
def Dn (t : Af) (id : Int) : Int := if !Bd t id then 0 else if Dj t id then 2 else if Tf t id then 3 else if (Gk t id).any (Dj t) then 1 else 0
theorem Qi {t : Af} (w : WfT t) (id : Int) : Cw t id = some (At t id,Bd t id) := by
 rw [Qe w]
 unfold At Bd
 cases Hr t id <;> rfl
theorem Abx {t : Af} (w : WfT t) (id : Int) : Er t id = some (At t id,Bd t id) := by
 have := w.len2
 rw [Aei t id (by omega)]
 unfold At Bd
 cases Hr t id <;> rfl
theorem AeN {h : Aa} (w : WfH h) (id : Int) : Fr h id = some ((Bm h.tasks id).getD zK,(Bm h.tasks id).isSome) := by
 rw [Wh w]
 cases Bm h.tasks id <;> rfl
theorem findC {h : Aa} (w : WfH h) (id : Int) : Pq h id = some ((Bm h.tasks id).getD zK,(Bm h.tasks id).isSome) := by
 have := w.len
 rw [Afz h id (by omega)]
 cases Bm h.tasks id <;> rfl
theorem Uq {t : Af} (w : WfT t) {x : Ah} (hx : x ∈ t.nodes) : At t x.id = x := by
 unfold At
 rw [getN_of w.sorted hx]
 rfl
theorem Akf {t : Af} {id : Int} (h : Bd t id = false) : At t id = zN := by
 unfold At Bd at *
 cases hg : Hr t id with
 | none => rfl
 | some x => rw [hg] at h; simp at h
theorem Md {t : Af} {id : Int} (h : Bd t id = true) : (At t id).id = id ∧ At t id ∈ t.nodes := by
 unfold At Bd at *
 cases hg : Hr t id with
 | none => rw [hg] at h; simp at h
 | some x => exact ⟨(Ur hg).2,(Ur hg).1⟩
theorem AgT {t : Af} (id : Int) : ancN t id = upT t id := by
 unfold ancN
 cases hg : Bd t id with
 | true => rfl
 | false =>
  have : upT t id = [] := AeB fun y hy e => by
   have := hasN_iff.mpr ⟨y,by simpa using hy,e⟩
   rw [hg] at this
   simp at this
  rw [this]
  rfl
theorem up_not {t : Af} {id : Int} (h : Bd t id = false) : upT t id = [] := AeB fun y hy e => by
 have := hasN_iff.mpr ⟨y,by simpa using hy,e⟩
 rw [h] at this
 simp at this
theorem AjT {t : Af} (w : WfT t) {id : Int} (h : Bd t id = true) : upT t id = id :: upT t (At t id).parent := by
 obtain ⟨e,hx⟩ := Md h
 have := w.up hx
 rw [e] at this
 exact this
theorem AlJ {t : Af} (w : WfT t) : Bd t 0 = false := by
 cases h : Bd t 0 with
 | false => rfl
 | true =>
  obtain ⟨x,hx,e⟩ := hasN_iff.mp h
  have := w.id_pos hx
  omega
theorem Ais {t : Af} (w : WfT t) {x : Ah} (hx : x ∈ t.nodes) (h1 : x.id ≠ 1) : Bd t x.parent = true := by
 rcases w.p.par x hx with ⟨h,_⟩ | ⟨_,_,⟨z,hz,e⟩,_⟩
 ·exact absurd h h1
 ·exact hasN_iff.mpr ⟨z,hz,e⟩
theorem Agw {t : Af} (w : WfT t) {x : Ah} (hx : x ∈ t.nodes) (h1 : x.id = 1) : x.parent = 0 ∧ x.kind = 0 := by
 rcases w.p.par x hx with ⟨_,r⟩ | ⟨h,h2,_⟩
 ·exact ⟨r.parent,r.kind⟩
 ·omega
theorem Xb {t : Af} (w : WfT t) (id : Int) : Jg t id = some (Gw t id,((upT t id).find? (fun a => !Dj t a)).isSome) := by
 unfold Jg
 rw [Kn w,AgT,Option.bind_some]
 have hu := Ajt w id
 rw [if_pos (by omega),Gj (p := fun a => !Dj t a) (f := fun a => (a,true)) (z := (0,false)) (fun k x n => by
  unfold Wz
  rw [Qi w]
  simp only [Option.bind_some]
  rfl) rfl]
 unfold Gw
 cases (upT t id).find? (fun a => !Dj t a) <;> rfl
theorem Qj {t : Af} (w : WfT t) (id : Int) : Hn t id = some (Gw t id) := by
 unfold Hn
 rw [Gv w,Option.bind_some]
 have hu := Ajt w id
 rw [if_pos (by omega),Gj (p := fun a => !Dj t a) (f := fun a => a) (z := 0) (fun k x n => by
  unfold Vx
  rw [Abx w]
  simp only [Option.bind_some]
  rfl) rfl]
 unfold Gw
 cases (upT t id).find? (fun a => !Dj t a) <;> rfl
theorem Pl {t : Af} (w : WfT t) (id : Int) : Gt t id = some (Tf t id) := by
 unfold Gt
 rw [Gv w,Option.bind_some]
 have hu := Ajt w id
 rw [if_pos (by omega),Gj (p := Dj t) (f := fun a => a != id) (z := false) (fun k x n => by
  unfold Tz
  rw [Abx w]
  simp only [Option.bind_some]
  rfl) rfl]
 rfl
theorem inv_step {t : Af} (w : WfT t) {id : Int} (h : Bd t id = true) (hk : Dj t id = false) : Tf t id = (Bd t (At t id).parent && (Dj t (At t id).parent || Tf t (At t id).parent)) := by
 obtain ⟨e,hx⟩ := Md h
 unfold Tf
 rw [AjT w h,List.find?_cons,hk]
 simp only
 cases hp : Bd t (At t id).parent with
 | false =>
  rw [up_not hp]
  rfl
 | true =>
  rw [AjT w hp,List.find?_cons]
  cases hq : Dj t (At t id).parent with
  | true =>
   have := w.par_lt hx
   simp
   omega
  | false =>
   simp only [Bool.true_and,Bool.false_or]
   cases hf : (upT t (At t (At t id).parent).parent).find? (Dj t) with
   | none => rfl
   | some y =>
    have hy := List.mem_of_find?_eq_some hf
    obtain ⟨q,hq2⟩ := Md hp
    have h0 : Bd t (At t (At t id).parent).parent = true := by
     obtain ⟨z,hz,ez⟩ := AgZ hy
     exact hasN_iff.mpr ⟨z,hz,ez⟩
    obtain ⟨q3,hq4⟩ := Md h0
    rw [← q3] at hy
    have h1 := up_le w _ hq4 _ hy
    have h2 := w.par_lt hq2
    have h3 := w.par_lt hx
    rw [q3] at h1
    have a1 : (y != id) = true := by rw [bne_iff_ne]; omega
    have a2 : (y != (At t id).parent) = true := by rw [bne_iff_ne]; omega
    show (y != id) = (y != (At t id).parent)
    rw [a1,a2]
theorem AaX {t : Af} (w : WfT t) {id : Int} (h : Bd t id = true) (b : Bool) : Lc t id b = some (if b then 3 else if (Gk t id).any (Dj t) then 1 else 0) := by
 unfold Lc
 cases b with
 | true => rfl
 | false =>
  simp only [Bool.false_eq_true,if_false]
  rw [Tq w,if_pos h,Option.bind_some]
  have := Acb t id
  have := w.len2
  rw [if_pos (by omega),Gj (p := Dj t) (f := fun _ => (1 : Int)) (z := (0 : Int)) (fun k x n => by
   unfold Aad
   rw [Qi w]
   simp only [Option.bind_some]
   rfl) rfl]
  cases hf : (Gk t id).find? (Dj t) with
  | none =>
   rw [List.find?_eq_none] at hf
   have : (Gk t id).any (Dj t) = false := by
    rw [List.any_eq_false]
    exact hf
   rw [this]
   rfl
  | some y =>
   have : (Gk t id).any (Dj t) = true := List.any_eq_true.mpr ⟨y,List.mem_of_find?_eq_some hf,List.find?_some hf⟩
   rw [this]
   rfl
theorem AkX {t : Af} (w : WfT t) : ∀ (n : Nat) (id : Int),id.toNat < n → Ic n t id = some (Dn t id) := by
 intro n
 induction n with
 | zero => intro id h; omega
 | succ n ih =>
  intro id hn
  rw [Ic]
  unfold Pr
  rw [Qi w,Option.bind_some]
  unfold Dn
  cases h : Bd t id with
  | false => rfl
  | true =>
   simp only [Bool.not_true,Bool.false_eq_true,if_false]
   obtain ⟨e,hx⟩ := Md h
   cases hk : Dj t id with
   | true =>
    have hk' : ((At t id).kind == 1) = true := hk
    rw [hk']
    rfl
   | false =>
    have hk' : ((At t id).kind == 1) = false := hk
    rw [hk']
    simp only [Bool.false_eq_true,if_false]
    rw [Qi w,Option.bind_some,inv_step w h hk]
    simp only
    cases hp : Bd t (At t id).parent with
    | false =>
     simp only [Bool.false_eq_true,if_false,Bool.false_and]
     rw [AaX w h]
     rfl
    | true =>
     obtain ⟨q,hq2⟩ := Md hp
     simp only [if_true,Bool.true_and]
     cases hq : Dj t (At t id).parent with
     | true =>
      have hq' : ((At t (At t id).parent).kind == 1) = true := hq
      rw [hq']
      simp only [if_true,Bool.true_or]
      exact AaX w h true
     | false =>
      have hq' : ((At t (At t id).parent).kind == 1) = false := hq
      rw [hq']
      simp only [Bool.false_eq_true,if_false,Bool.false_or]
      have h1 := w.par_lt hx
      have h2 := w.id_pos hq2
      rw [q] at h2 ⊢
      rw [ih _ (by omega),Option.bind_some,AaX w h]
      have : (Dn t (At t id).parent == 3) = Tf t (At t id).parent := by
       unfold Dn
       rw [hp,hq]
       simp only [Bool.not_true,Bool.false_eq_true,if_false]
       cases Tf t (At t id).parent with
       | true => rfl
       | false =>
        simp only [Bool.false_eq_true,if_false]
        split <;> rfl
      rw [this]
theorem Qc {t : Af} (w : WfT t) (id : Int) : Ke t id = some (Dn t id) := by
 unfold Ke
 by_cases h : id.toNat < Fy
 ·exact AkX w Fy id h
 ·have hid : Bd t id = false := by
   cases hh : Bd t id with
   | false => rfl
   | true =>
    obtain ⟨x,hx,e⟩ := hasN_iff.mp hh
    have h1 := w.next x hx
    have h2 := w.nextLe
    rw [Ov] at h
    omega
  have : Fy = 1099511627775 + 1 := rfl
  rw [this,Ic]
  unfold Pr Dn
  rw [Qi w,Option.bind_some,hid]
  rfl
theorem type_inv {t : Af} {id : Int} : Dn t id = 3 ↔ (Bd t id = true ∧ Dj t id = false ∧ Tf t id = true) := by
 unfold Dn
 cases Bd t id <;> cases Dj t id <;> cases Tf t id <;> simp <;> split <;> simp
def Abb (t : Af) (x : Ah) : Int := if x.id == 1 then 31 else (At t x.parent).control
def Ns (t : Af) (x : Ah) : Int := if x.kind == 1 then Az .i64 (Abb t x) 6 else Abb t x
theorem AkS : (List.range 32).all (fun c => Az .i64 (Az .i64 (c : Int) 6) 6 == Az .i64 (c : Int) 6) = true := by decide +kernel
theorem AlK {c : Int} (h0 : 0 ≤ c) (h1 : c ≤ 31) : Az .i64 (Az .i64 c 6) 6 = Az .i64 c 6 := by
 have := List.all_eq_true.mp AkS c.toNat (by rw [List.mem_range]; omega)
 rw [show ((c.toNat : Nat) : Int) = c by omega] at this
 simpa using this
theorem AjN {t : Af} (w : WfT t) (id : Int) : 0 ≤ (At t id).control ∧ (At t id).control ≤ 31 := by
 cases h : Bd t id with
 | false =>
  rw [Akf h]
  simp [zN]
 | true =>
  have v := w.p.val _ (Md h).2
  exact ⟨v.c1,v.c2⟩
theorem Aec {t : Af} (w : WfT t) (x : Ah) : Qu t x = some (Ns t x) := by
 have hJ : Nf x (Abb t x) = some (Ns t x) := by
  unfold Nf Ra Ns
  cases (x.kind == 1) <;> rfl
 unfold Qu
 by_cases h : x.id = 1
 ·have h1 : (x.id != 1) = false := by simp [h]
  have h2 : (x.id == 1) = true := by simp [h]
  have ht : Abb t x = 31 := by
   unfold Abb
   rw [h2]
   rfl
  rw [h1,if_neg (by simp),← ht]
  exact hJ
 ·have h1 : (x.id != 1) = true := by simpa using h
  have h2 : (x.id == 1) = false := by simpa using h
  have ht : Abb t x = (At t x.parent).control := by
   unfold Abb
   rw [h2]
   rfl
  rw [h1,if_pos rfl,Abx w,Option.bind_some]
  simp only
  rw [← ht]
  exact hJ
theorem AbS {t : Af} (w : WfT t) {x : Ah} (hx : x ∈ t.nodes) : Iz t x.id = some (Ns t x) := by
 unfold Iz
 rw [Qi w,Option.bind_some,Uq w hx,has_of hx]
 simp only [Bool.not_true,Bool.false_eq_true,if_false]
 unfold Ii Kt Ns
 by_cases h : x.id = 1
 ·have h1 : (x.id != 1) = false := by simp [h]
  have h2 : (x.id == 1) = true := by simp [h]
  have ht : Abb t x = 31 := by
   unfold Abb
   rw [h2]
   rfl
  rw [h1,if_neg (by simp),ht]
  cases (x.kind == 1) <;> simp
 ·have h1 : (x.id != 1) = true := by simpa using h
  have h2 : (x.id == 1) = false := by simpa using h
  have ht : Abb t x = (At t x.parent).control := by
   unfold Abb
   rw [h2]
   rfl
  rw [h1,if_pos rfl]
  unfold Sv
  rw [Qi w,Option.bind_some,Uq w hx,has_of hx]
  simp only [Bool.not_true,Bool.false_or,h2,Bool.false_eq_true,if_false]
  rw [Qi w,Option.bind_some,ht]
  simp only
  cases (x.kind == 1) with
  | false => simp
  | true =>
   have := AjN w x.parent
   simp only [if_true,Option.bind_some]
   rw [AlK this.1 this.2]
structure SndN (h : Aa) (x : Ah) : Prop where
 av : Az .i64 x.control (Ns h.tree x) = 0
 busy : x.id ≠ 1 → kand .i64 x.control 6 ≠ 0 → Hk h x.id = []
structure Wv (h : Aa) : Prop where
 wf : WfH h
 snd : ∀ x ∈ h.tree.nodes,SndN h x
structure FitN (h : Aa) (x : Ah) : Prop where
 inv : Dn h.tree x.id = 3 → x.control = 0 ∧ Hk h x.id = []
 thr : x.kind = 1 → (x.parent ≠ 1 → kand .i64 (At h.tree x.parent).control 6 = 0) ∧ Dn h.tree x.parent ≠ 3
def Tl (h : Aa) (x : An) : An := (Bm h.tasks x.process).getD zK
structure Bh (h : Aa) : Prop where
 snd : Wv h
 dom : ∀ x ∈ h.tasks,Gw h.tree x.group = Gw h.tree (Tl h x).group
 nod : ∀ x ∈ h.tree.nodes,FitN h x
theorem Np {α : Type} {P : α → Prop} {pre : List α} {x : α} (h1 : ∀ y ∈ pre,P y) (h2 : P x) : ∀ y ∈ pre ++ [x],P y := by
 intro y hy
 rcases List.mem_append.mp hy with hy | hy
 ·exact h1 y hy
 ·obtain rfl : y = x := by simpa using hy
  exact h2
theorem len_pos_iff {l : List Int} : decide (((l.length : Nat) : Int) > 0) = false ↔ l = [] := by
 rw [decide_eq_false_iff_not]
 constructor
 ·intro h
  exact List.length_eq_zero_iff.mp (by omega)
 ·rintro rfl
  simp
theorem AdQ (h : Aa) : Ok (Mq h) (fun b => b = true ↔ Wv h) := by
 have bad : ¬ Wv h → Ok (some false) (fun b => b = true ↔ Wv h) := fun hn => Ok.ret ⟨fun e => by simp at e,fun w => absurd w hn⟩
 unfold Mq
 refine Ok.bind (AaQ h) fun b hb => ?_
 refine Ok.ite (fun c => bad fun s => ?_) fun c => ?_
 ·rw [hb.mpr s.wf] at c
  simp at c
 have w := hb.mp (by simpa using c)
 have l2 := w.tree.len2
 refine Ok.guard (by omega) ?_
 refine Ok.range (fun pre _ => ∀ x ∈ pre,SndN h x) (by simp) ?_ ?_
 ·intro pre x post _ n he hI hn
  have hx : x ∈ h.tree.nodes := by rw [he]; simp
  unfold Zb Jq
  refine Ok.step (AbS w.tree hx) ?_
  refine Ok.ite (fun c => bad fun s => ?_) fun c1 => ?_
  ·rw [(s.snd x hx).av] at c
   simp at c
  have c1 : Az .i64 x.control (Ns h.tree x) = 0 := by simpa using c1
  refine Ok.ite (fun c2 => ?_) fun c2 => ?_
  ·have c2 : x.id ≠ 1 := by simpa using c2
   refine Ok.ite (fun c3 => ?_) fun c3 => ?_
   ·have c3 : kand .i64 x.control 6 ≠ 0 := by simpa using c3
    refine Ok.step (Rm w x.id) ?_
    refine Ok.ite (fun c4 => bad fun s => ?_) fun c4 => ?_
    ·rw [(s.snd x hx).busy c2 c3] at c4
     simp at c4
    ·exact hn () (Np hI ⟨c1,fun _ _ => len_pos_iff.mp c4⟩)
   ·have c3 : kand .i64 x.control 6 = 0 := by simpa using c3
    exact hn () (Np hI ⟨c1,fun _ h => absurd c3 h⟩)
  ·have c2 : x.id = 1 := by simpa using c2
   exact hn () (Np hI ⟨c1,fun h => absurd c2 h⟩)
 ·intro _ hI
  exact Ok.ret ⟨fun _ => ⟨w,hI⟩,fun _ => rfl⟩
theorem Abd {h : Aa} (r : Wd h) : Ok (Mc h) (fun b => b = true ↔ Wv h) := by
 have bad : ¬ Wv h → Ok (some false) (fun b => b = true ↔ Wv h) := fun hn => Ok.ret ⟨fun e => by simp at e,fun w => absurd w hn⟩
 unfold Mc
 refine Ok.bind (AcL h r.m) fun b hb => ?_
 refine Ok.ite (fun c => bad fun s => ?_) fun c => ?_
 ·rw [hb.mpr s.wf] at c
  simp at c
 have w := hb.mp (by simpa using c)
 have l1 := w.len
 have l2 := w.tree.len2
 refine Ok.guard (by omega) ?_
 refine Ok.range (fun pre _ => ∀ x ∈ pre,SndN h x) (by simp) ?_ ?_
 ·intro pre x post _ n he hI hn
  have hx : x ∈ h.tree.nodes := by rw [he]; simp
  unfold Yl Lx
  refine Ok.step (Aec w.tree x) ?_
  refine Ok.ite (fun c => bad fun s => ?_) fun c1 => ?_
  ·rw [(s.snd x hx).av] at c
   simp at c
  have c1 : Az .i64 x.control (Ns h.tree x) = 0 := by simpa using c1
  refine Ok.ite (fun c2 => ?_) fun c2 => ?_
  ·have c2 : x.id ≠ 1 := by simpa using c2
   refine Ok.ite (fun c3 => ?_) fun c3 => ?_
   ·have c3 : kand .i64 x.control 6 ≠ 0 := by simpa using c3
    refine Ok.step (Ut w.sorted (by omega) x.id) ?_
    refine Ok.ite (fun c4 => bad fun s => ?_) fun c4 => ?_
    ·rw [(s.snd x hx).busy c2 c3] at c4
     simp at c4
    ·exact hn () (Np hI ⟨c1,fun _ _ => len_pos_iff.mp c4⟩)
   ·have c3 : kand .i64 x.control 6 = 0 := by simpa using c3
    exact hn () (Np hI ⟨c1,fun _ h => absurd c3 h⟩)
  ·have c2 : x.id = 1 := by simpa using c2
   exact hn () (Np hI ⟨c1,fun h => absurd c2 h⟩)
 ·intro _ hI
  exact Ok.ret ⟨fun _ => ⟨w,hI⟩,fun _ => rfl⟩
theorem AmX {t : Af} (w : WfT t) : At t 0 = zN := Akf (AlJ w)
theorem par_id {t : Af} (w : WfT t) {x : Ah} (hx : x ∈ t.nodes) : (At t x.parent).id = x.parent := by
 by_cases h : x.id = 1
 ·rw [(Agw w hx h).1,AmX w]
  rfl
 ·exact (Md (Ais w hx h)).1
theorem AaR (h : Aa) : Ok (Fq h) (fun b => b = true ↔ Bh h) := by
 have bad : ¬ Bh h → Ok (some false) (fun b => b = true ↔ Bh h) := fun hn => Ok.ret ⟨fun e => by simp at e,fun w => absurd w hn⟩
 unfold Fq
 refine Ok.bind (AdQ h) fun b hb => ?_
 refine Ok.ite (fun c => bad fun s => ?_) fun c => ?_
 ·rw [hb.mpr s.snd] at c
  simp at c
 have snd := hb.mp (by simpa using c)
 have w := snd.wf
 have l1 := w.len
 have l2 := w.tree.len2
 refine Ok.guard (by omega) ?_
 refine Ok.range (fun pre _ => ∀ x ∈ pre,Gw h.tree x.group = Gw h.tree (Tl h x).group) (by simp) ?_ ?_
 ·intro pre x post _ n he hI hn
  have hx : x ∈ h.tasks := by rw [he]; simp
  unfold Aao
  refine Ok.step (AeN w x.process) (Ok.step (Xb w.tree _) (Ok.step (Xb w.tree _) ?_))
  refine Ok.ite (fun c => bad fun s => ?_) fun c => ?_
  ·have := s.dom x hx
   unfold Tl at this
   simp [this] at c
  ·refine hn () (Np hI ?_)
   unfold Tl
   simpa using c
 ·intro _ hdom
  unfold Aai
  refine Ok.guard (by omega) ?_
  refine Ok.range (fun pre _ => ∀ x ∈ pre,FitN h x) (by simp) ?_ ?_
  ·intro pre x post _ n he hI hn
   have hx : x ∈ h.tree.nodes := by rw [he]; simp
   have hJ18 : ∀ b : Bool,(b = true → ¬ Bh h) → (b = false → FitN h x) → Ok (Hq n b) (fun b => b = true ↔ Bh h) := by
    intro b b1 b2
    unfold Hq
    exact Ok.ite (fun c => bad (b1 c)) fun c => hn () (Np hI (b2 c))
   have hpid := par_id w.tree hx
   have hJ17 : ∀ b : Bool,(b = true → ¬ Bh h) → (b = false → (Dn h.tree x.id = 3 → x.control = 0 ∧ Hk h x.id = [])) → Ok (Jp h x n (At h.tree x.parent,Bd h.tree x.parent) b) (fun b => b = true ↔ Bh h) := by
    intro b b1 b2
    unfold Jp
    refine Ok.ite (fun c => bad (b1 c)) fun c => ?_
    have binv := b2 c
    simp only
    rw [hpid]
    refine Ok.ite (fun c1 => ?_) fun c1 => ?_
    ·have c1 : x.kind = 1 := by simpa using c1
     refine Ok.ite (fun c2 => ?_) fun c2 => ?_
     ·have c2 : x.parent ≠ 1 := by simpa using c2
      refine Ok.ite (fun c3 => ?_) fun c3 => ?_
      ·have c3 : kand .i64 (At h.tree x.parent).control 6 ≠ 0 := by simpa using c3
       exact hJ18 _ (fun _ s => c3 (((s.nod x hx).thr c1).1 c2)) (fun e => by simp at e)
      ·have c3 : kand .i64 (At h.tree x.parent).control 6 = 0 := by simpa using c3
       refine Ok.step (Qc w.tree _) (hJ18 _ (fun e s => ((s.nod x hx).thr c1).2 (by simpa using e)) fun e => ⟨binv,fun _ => ⟨fun _ => c3,by simpa using e⟩⟩)
     ·have c2 : x.parent = 1 := by simpa using c2
      refine Ok.step (Qc w.tree _) (hJ18 _ (fun e s => ((s.nod x hx).thr c1).2 (by simpa using e)) fun e => ⟨binv,fun _ => ⟨fun q => absurd c2 q,by simpa using e⟩⟩)
    ·have c1 : x.kind ≠ 1 := by simpa using c1
     exact hJ18 _ (fun e => by simp at e) fun _ => ⟨binv,fun q => absurd q c1⟩
   unfold Aan
   refine Ok.step (Qi w.tree _) (Ok.step (Qc w.tree _) ?_)
   refine Ok.ite (fun c1 => ?_) fun c1 => ?_
   ·have c1 : Dn h.tree x.id = 3 := by simpa using c1
    refine Ok.ite (fun c2 => ?_) fun c2 => ?_
    ·have c2 : x.control ≠ 0 := by simpa using c2
     exact hJ17 _ (fun _ s => c2 ((s.nod x hx).inv c1).1) fun e => by simp at e
    ·have c2 : x.control = 0 := by simpa using c2
     refine Ok.step (Rm w _) (hJ17 _ (fun e s => ?_) fun e _ => ⟨c2,len_pos_iff.mp e⟩)
     rw [((s.nod x hx).inv c1).2] at e
     simp at e
   ·have c1 : Dn h.tree x.id ≠ 3 := by simpa using c1
    exact hJ17 _ (fun e => by simp at e) fun _ q => absurd q c1
  ·intro _ hnod
   exact Ok.ret ⟨fun _ => ⟨snd,hdom,hnod⟩,fun _ => rfl⟩
theorem Ajl {h : Aa} (w : WfH h) {x : Ah} (hx : x ∈ h.tree.nodes) : Ok (Sj h x) (fun b => b = true ↔ FitN h x) := by
 have l1 := w.len
 have hself := Uq w.tree hx
 unfold Sj Lw Pw
 refine Ok.ite (fun c => ?_) fun c => ?_
 ·have c : x.kind ≠ 1 := by simpa using c
  have ht : Dj h.tree x.id = false := by
   unfold Dj
   rw [hself]
   simpa using c
  have hiff : Dn h.tree x.id = 3 ↔ Tf h.tree x.id = true := by
   rw [type_inv,has_of hx,ht]
   simp
  have hfit : FitN h x ↔ (Tf h.tree x.id = true → x.control = 0 ∧ Hk h x.id = []) := by
   constructor
   ·intro f e
    exact f.inv (hiff.mpr e)
   ·intro f
    exact ⟨fun e => f (hiff.mp e),fun e => absurd e c⟩
  refine Ok.step (Pl w.tree x.id) ?_
  refine Ok.ite (fun c1 => Ok.ret ?_) fun c1 => ?_
  ·have c1 : Tf h.tree x.id = false := by simpa using c1
   rw [hfit,c1]
   simp
  have c1 : Tf h.tree x.id = true := by simpa using c1
  refine Ok.ite (fun c2 => ?_) fun c2 => Ok.ret ?_
  ·have c2 : x.control = 0 := by simpa using c2
   refine Ok.step (Ut w.sorted (by omega) x.id) (Ok.ret ?_)
   rw [hfit]
   constructor
   ·intro e _
    refine ⟨c2,List.length_eq_zero_iff.mp ?_⟩
    have : (((Hk h x.id).length : Nat) : Int) = 0 := by simpa using e
    omega
   ·intro f
    rw [(f c1).2]
    rfl
  ·have c2 : x.control ≠ 0 := by simpa using c2
   rw [hfit]
   constructor
   ·intro e
    simp at e
   ·intro f
    exact absurd (f c1).1 c2
 ·have c : x.kind = 1 := by simpa using c
  have ht : Dj h.tree x.id = true := by
   unfold Dj
   rw [hself]
   simpa using c
  have hni : Dn h.tree x.id ≠ 3 := fun e => by
   have := (type_inv.mp e).2.1
   rw [ht] at this
   simp at this
  have hx1 : x.id ≠ 1 := fun e => by
   have := (Agw w.tree hx e).2
   omega
  have hp := Ais w.tree hx hx1
  have hfit : FitN h x ↔ ((x.parent ≠ 1 → kand .i64 (At h.tree x.parent).control 6 = 0) ∧ Dn h.tree x.parent ≠ 3) := by
   constructor
   ·intro f
    exact f.thr c
   ·intro f
    exact ⟨fun e => absurd e hni,fun _ => f⟩
  have fin : Dn h.tree x.parent ≠ 3 → ((((x.parent == 1) || (kand .i64 (At h.tree x.parent).control 6 == 0)) = true) ↔ FitN h x) := by
   intro hty
   rw [hfit]
   simp only [Bool.or_eq_true,beq_iff_eq]
   constructor
   ·rintro (e | e)
    ·exact ⟨fun q => absurd e q,hty⟩
    ·exact ⟨fun _ => e,hty⟩
   ·rintro ⟨f,_⟩
    by_cases e : x.parent = 1
    ·exact .inl e
    ·exact .inr (f e)
  refine Ok.step (Abx w.tree x.parent) ?_
  simp only
  refine Ok.ite (fun c1 => ?_) fun c1 => ?_
  ·have c1 : Dj h.tree x.parent = false := by
    unfold Dj
    simpa using c1
   refine Ok.step (Pl w.tree x.parent) ?_
   refine Ok.ite (fun c2 => Ok.ret ?_) fun c2 => Ok.ret (fin ?_)
   ·constructor
    ·intro e
     simp at e
    ·intro f
     exact absurd (type_inv.mpr ⟨hp,c1,c2⟩) (hfit.mp f).2
   ·intro e
    rw [(type_inv.mp e).2.2] at c2
    simp at c2
  ·have c1 : Dj h.tree x.parent = true := by
    unfold Dj
    simpa using c1
   refine Ok.ite (fun c2 => by simp at c2) fun _ => Ok.ret (fin fun e => ?_)
   have := (type_inv.mp e).2.1
   rw [c1] at this
   simp at this
theorem Alf {α : Type} (m : IMap α) (k : Int) (v : α) (j : Int) : (m.set k v).get j = if j = k then v else m.get j := rfl
theorem Abi {h : Aa} (r : Wd h) : Ok (Ct h) (fun b => b = true ↔ Bh h) := by
 have bad : ¬ Bh h → Ok (some false) (fun b => b = true ↔ Bh h) := fun hn => Ok.ret ⟨fun e => by simp at e,fun w => absurd w hn⟩
 unfold Ct
 refine Ok.bind (Abd r) fun b hb => ?_
 refine Ok.ite (fun c => bad fun s => ?_) fun c => ?_
 ·rw [hb.mpr s.snd] at c
  simp at c
 have snd := hb.mp (by simpa using c)
 have w := snd.wf
 have l1 := w.len
 have l2 := w.tree.len2
 refine Ok.guard (by omega) ?_
 refine Ok.range (fun pre m => ∀ x ∈ pre,x.id = x.process → m.get x.id = Gw h.tree x.group) (by simp) ?_ ?_
 ·intro pre x post m n he hI hn
  unfold Yg Pp
  refine Ok.ite (fun c => ?_) fun c => ?_
  ·refine Ok.step (Qj w.tree x.group) (hn _ ?_)
   intro y hy hyp
   rw [Alf]
   rcases List.mem_append.mp hy with hy | hy
   ·have : y.id ≠ x.id := fun e => by
     have hs := w.sorted
     rw [he,List.pairwise_append] at hs
     have := hs.2.2 y hy x (by simp)
     omega
    rw [if_neg this]
    exact hI y hy hyp
   ·obtain rfl : y = x := by simpa using hy
    rw [if_pos rfl]
  ·have c : ¬ x.id = x.process := by simpa using c
   exact hn _ (Np hI fun e => absurd e c)
 ·intro m hm
  have hld : ∀ x ∈ h.tasks,m.get x.process = Gw h.tree (Tl h x).group := by
   intro x hx
   obtain ⟨p,q1,q2,q3⟩ := (w.val x hx).ldr
   obtain ⟨hp,hpi⟩ := Ox q1
   have := hm p hp (by omega)
   unfold Tl
   rw [q1,← hpi]
   exact this
  unfold Xy
  refine Ok.guard (by omega) ?_
  refine Ok.range (fun pre _ => ∀ x ∈ pre,Gw h.tree x.group = Gw h.tree (Tl h x).group) (by simp) ?_ ?_
  ·intro pre x post _ n he hI hn
   have hx : x ∈ h.tasks := by rw [he]; simp
   unfold Xw
   refine Ok.step (Qj w.tree x.group) ?_
   rw [hld x hx]
   refine Ok.ite (fun c => bad fun s => ?_) fun c => hn () (Np hI (by simpa using c))
   rw [s.dom x hx] at c
   simp at c
  ·intro _ hdom
   unfold Za
   refine Ok.guard (by omega) ?_
   refine Ok.range (fun pre _ => ∀ x ∈ pre,FitN h x) (by simp) ?_ ?_
   ·intro pre x post _ n he hI hn
    have hx : x ∈ h.tree.nodes := by rw [he]; simp
    unfold Xj
    refine Ok.bind (Ajl w hx) fun b hb => ?_
    refine Ok.ite (fun c => bad fun s => ?_) fun c => hn () (Np hI (hb.mp (by simpa using c)))
    rw [hb.mpr (s.nod x hx)] at c
    simp at c
   ·intro _ hnod
    exact Ok.ret ⟨fun _ => ⟨snd,hdom,hnod⟩,fun _ => rfl⟩
theorem La {h : Aa} (f : Bh h) : Fq h = some true := by
 obtain ⟨b,hb,e⟩ := AaR h
 rw [hb,e.mpr f]
theorem AdC {h : Aa} (f : ¬ Bh h) : Fq h = some false := by
 obtain ⟨b,hb,e⟩ := AaR h
 cases b
 ·exact hb
 ·exact absurd (e.mp rfl) f
theorem Ek {h : Aa} (f : Bh h) : Ct h = some true := by
 obtain ⟨b,hb,e⟩ := Abi f.snd.wf.raw
 rw [hb,e.mpr f]
theorem Lq {h : Aa} (r : Wd h) (f : ¬ Bh h) : Ct h = some false := by
 obtain ⟨b,hb,e⟩ := Abi r
 cases b
 ·exact hb
 ·exact absurd (e.mp rfl) f
def Lg (t : Af) (g : Int) : Int :=
 if !Bd t g then 4 else if Dn t g == 3 then 10 else if (g != 1) && (kand .i64 (At t g).control 6 != 0) then 6 else 0
theorem Abg {h : Aa} (w : WfH h) (g : Int) : Ls h g = some (Lg h.tree g) := by
 unfold Ls Lg Mo
 rw [Abx w.tree,Option.bind_some]
 cases hg : Bd h.tree g with
 | false => rfl
 | true =>
  simp only [Bool.not_true,Bool.false_eq_true,if_false]
  have ht : ∀ b : Bool,(Dn h.tree g = 3 ↔ b = true) → (Dn h.tree g == 3) = b := by
   intro b hb
   cases b with
   | true => simpa using hb.mpr rfl
   | false =>
    have : Dn h.tree g ≠ 3 := fun e => by simpa using hb.mp e
    simpa using this
  cases hk : Dj h.tree g with
  | true =>
   have hk' : ((At h.tree g).kind != 1) = false := by
    unfold Dj at hk
    simpa using hk
   rw [hk',ht false (by rw [type_inv,hk]; simp)]
   simp only [Bool.false_eq_true,if_false]
   cases (g != 1 && kand .i64 (At h.tree g).control 6 != 0) <;> rfl
  | false =>
   have hk' : ((At h.tree g).kind != 1) = true := by
    unfold Dj at hk
    simpa using hk
   rw [hk',Pl w.tree,ht (Tf h.tree g) (by rw [type_inv,hk,hg]; simp)]
   simp only [if_true,Option.bind_some]
   cases Tf h.tree g
   ·simp only [Bool.false_eq_true,if_false]
    cases (g != 1 && kand .i64 (At h.tree g).control 6 != 0) <;> rfl
   ·rfl
theorem AaU {h : Aa} (f : Bh h) (g : Int) : Lb h g = some (Lg h.tree g) := by
 have w := f.snd.wf
 unfold Lb Lg
 rw [La f,Option.bind_some,Qi w.tree,Option.bind_some,Qc w.tree]
 cases Bd h.tree g with
 | false => rfl
 | true =>
  simp only [Bool.not_true,Bool.false_eq_true,if_false,Option.bind_some]
  cases (Dn h.tree g == 3)
  ·simp only [Bool.false_eq_true,if_false]
   cases (g != 1 && kand .i64 (At h.tree g).control 6 != 0) <;> rfl
  ·rfl
end Go.Dm

/- Plain theory, part 25: forks that are counted. -/
namespace Go.Dm
def AcE (h : Aa) (k : Int) : Int := ((Bm h.tasks k).getD zK).group
theorem Abt {h : Aa} {k g : Int} (hk : (Bm h.tasks k).isSome = true) (hg : Bd h.tree g = true) : AdR h k g = ({ tree := h.tree,tasks := h.tasks.map (Qd k g),next := h.next },0) := by
 unfold AdR
 rw [hk,hg]
 rfl
def Sm (p g : Int) (y : An) : An := if y.process == p then { id := y.id,process := y.process,group := g,user := y.user } else y
theorem Zu {h : Aa} (w : WfH h) (p : Int) : Qt h p = some (Dx h p) := by
 have := w.len
 unfold Qt
 rw [Jy w]
 simp only [Option.bind_some,Bool.not_true,Bool.false_eq_true,if_false]
 rw [if_pos (by omega)]
 refine (Kc (p := fun x : An => x.process == p) (f := fun x : An => x.id) (r := some) ?_ (fun _ => rfl) (by simp; omega)).trans (by simp [Dx])
 intro k x s n hs
 unfold Zr Rk
 rw [if_pos hs]
theorem AjC (h : Aa) (k g : Int) : Ok (Qb h k g) (fun r => r.2 = 0 → WfH r.1 ∧ r.1.tree = h.tree ∧ r.1.tasks.length = h.tasks.length ∧ r.1.next = h.next) := by
 unfold Qb
 have bad : ∀ (x : Aa) (n : Int),n ≠ 0 → Ok (some (x,n)) (fun r : Aa × Int => r.2 = 0 → WfH r.1 ∧ r.1.tree = h.tree ∧ r.1.tasks.length = h.tasks.length ∧ r.1.next = h.next) := fun x n hn => Ok.ret fun e => absurd e hn
 refine Ok.bind (AaR h) fun b hb => Ok.ite (fun _ => bad _ _ (by decide)) fun c => ?_
 have f := hb.mp (by simpa using c)
 have w := f.snd.wf
 have l1 := w.len
 have hJ : ∀ b,(b = false → Bd h.tree g = true) → Ok (Kg h k g b) (fun r => r.2 = 0 → WfH r.1 ∧ r.1.tree = h.tree ∧ r.1.tasks.length = h.tasks.length ∧ r.1.next = h.next) := fun b hg => by
  unfold Kg
  refine Ok.ite (fun _ => bad _ _ (by decide)) fun c => ?_
  have hg := hg c
  refine Ok.step (Qc w.tree g) (Ok.ite (fun _ => bad _ _ (by decide)) fun _ => ?_)
  refine Ok.step (AaU f g) (Ok.ite (fun c => bad _ _ (by simpa using c)) fun _ => ?_)
  refine Ok.step (Zu w k) ?_
  have hlen : (Dx h k).length ≤ h.tasks.length := by
   unfold Dx
   rw [List.length_map]
   exact List.length_filter_le _ _
  refine Ok.guard (by omega) ?_
  refine Ok.range (fun _ s => WfH s ∧ s.tree = h.tree ∧ s.tasks.length = h.tasks.length ∧ s.next = h.next ∧ ∀ id,(Bm s.tasks id).isSome = (Bm h.tasks id).isSome) ⟨w,rfl,rfl,rfl,fun _ => rfl⟩ ?_ ?_
  ·intro pre x post s n he ⟨i1,i2,i3,i4,i5⟩ hn
   unfold Wy
   refine Ok.step (Xs i1 x g) (hn _ ?_)
   have hx : (Bm s.tasks x).isSome = true := by
    rw [i5]
    have : x ∈ Dx h k := by rw [he]; simp
    unfold Dx at this
    obtain ⟨y,hy,rfl⟩ := List.mem_map.mp this
    rw [AgU w.sorted (List.mem_filter.mp hy).1]
    rfl
   have hp := Abt hx (by rw [i2]; exact hg)
   have wp := AcQ i1 hp rfl
   rw [hp]
   refine ⟨wp,i2,by simpa using i3,i4,fun id => ?_⟩
   simp only
   rw [AeJ fun y _ => (Kr x g y).1,Option.isSome_map]
   exact i5 id
  ·rintro s ⟨i1,i2,i3,i4,_⟩
   exact Ok.ret fun _ => ⟨i1,i2,i3,i4⟩
 refine Ok.step (AeN w k) (Ok.ite (fun _ => hJ _ fun e => by simp at e) fun _ => Ok.ite (fun _ => hJ _ fun e => by simp at e) fun _ => Ok.step (Hd w.tree g) (hJ _ fun e => by simpa using e))
end Go.Dm

/- Plain theory, part 30: what keeps Fits; all made hierarchies fit. -/
namespace Go.Dm
theorem Akg {h : Aa} {g : Int} : Hk h g = [] ↔ ∀ x ∈ h.tasks,x.group ≠ g := by
 unfold Hk
 rw [List.map_eq_nil_iff,List.filter_eq_nil_iff]
 constructor
 ·intro hh x hx e
  exact hh x hx (by simpa using e)
 ·intro hh x hx e
  exact hh x hx (by simpa using e)
theorem AmA {t : Af} {g : Int} (h : Lg t g = 0) : Bd t g = true ∧ Dn t g ≠ 3 ∧ (g ≠ 1 → kand .i64 (At t g).control 6 = 0) := by
 unfold Lg at h
 split at h
 ·simp at h
 split at h
 ·simp at h
 split at h
 ·simp at h
 rename_i h1 h2 h3
 refine ⟨by simpa using h1,by simpa using h2,fun e => ?_⟩
 simp only [Bool.and_eq_true,bne_iff_ne,not_and,Decidable.not_not] at h3
 exact h3 e
theorem Aje {h h' : Aa} (f : Bh h) (w' : WfH h') (ht : h'.tree = h.tree) (hg : ∀ x ∈ h'.tasks,(∃ y ∈ h.tasks,y.group = x.group) ∨ Lg h.tree x.group = 0)
  (hd : ∀ x ∈ h'.tasks,Gw h.tree x.group = Gw h.tree (Tl h' x).group) : Bh h' := by
 have w := f.snd.wf
 have hk : ∀ x ∈ h.tree.nodes,(Dn h.tree x.id = 3 ∨ (x.id ≠ 1 ∧ kand .i64 x.control 6 ≠ 0)) → Hk h x.id = [] → Hk h' x.id = [] := by
  intro x hx hc h0
  rw [Akg] at h0 ⊢
  intro y hy e
  rcases hg y hy with ⟨z,hz,ez⟩ | ha
  ·exact h0 z hz (by omega)
  ·rw [e] at ha
   obtain ⟨_,a2,a3⟩ := AmA ha
   rw [Uq w.tree hx] at a3
   rcases hc with hc | ⟨c1,c2⟩
   ·exact a2 hc
   ·exact c2 (a3 c1)
 refine ⟨⟨w',fun x hx => ?_⟩,fun x hx => ?_,fun x hx => ?_⟩
 ·rw [ht] at hx
  have s := f.snd.snd x hx
  exact ⟨by rw [ht]; exact s.av,fun h1 h2 => hk x hx (.inr ⟨h1,h2⟩) (s.busy h1 h2)⟩
 ·rw [ht]
  exact hd x hx
 ·rw [ht] at hx
  have n := f.nod x hx
  refine ⟨fun h3 => ?_,fun h1 => ?_⟩
  ·rw [ht] at h3
   exact ⟨(n.inv h3).1,hk x hx (.inl h3) (n.inv h3).2⟩
  ·rw [ht]
   exact n.thr h1
theorem AbT {h : Aa} (w : WfH h) {x : An} (hx : x ∈ h.tasks) : Bm h.tasks x.process = some (Tl h x) ∧ Tl h x ∈ h.tasks ∧ (Tl h x).id = x.process ∧ (Tl h x).process = x.process := by
 obtain ⟨p,q1,q2,_⟩ := (w.val x hx).ldr
 have e : Tl h x = p := by
  unfold Tl
  rw [q1]
  rfl
 rw [e]
 exact ⟨q1,(Ox q1).1,(Ox q1).2,q2⟩
def Vk (h : Aa) (k g : Int) : Aa × Int :=
 if !((Bm h.tasks k).isSome && Bd h.tree g) then (zH,4) else if Lg h.tree g != 0 then (zH,Lg h.tree g) else if Gw h.tree g != Gw h.tree (AcE h k) then (zH,9)
 else ({ tree := h.tree,tasks := h.tasks.map (Qd k g),next := h.next },0)
theorem Afu {h : Aa} (f : Bh h) (k g : Int) : Gf h k g = some (Vk h k g) := by
 have w := f.snd.wf
 unfold Gf Vk
 rw [La f,Option.bind_some,if_neg (by simp),AeN w,Option.bind_some]
 cases hk : (Bm h.tasks k).isSome with
 | false => rfl
 | true =>
  simp only [Bool.not_true,Bool.false_eq_true,if_false,Bool.true_and]
  rw [Hd w.tree,Option.bind_some]
  cases hg : Bd h.tree g with
  | false => rfl
  | true =>
   unfold Gi
   simp only [Bool.not_true,Bool.false_eq_true,if_false]
   rw [AaU f,Option.bind_some]
   cases ha : (Lg h.tree g != 0) with
   | true => rfl
   | false =>
    simp only [Bool.false_eq_true,if_false]
    rw [Xb w.tree,Option.bind_some,Xb w.tree,Option.bind_some]
    show (if (Gw h.tree g != Gw h.tree (AcE h k)) = true then _ else _) = _
    cases hd : (Gw h.tree g != Gw h.tree (AcE h k)) with
    | true => rfl
    | false =>
     simp only [Bool.false_eq_true,if_false]
     rw [Xs w,Option.bind_some,Abt hk hg]
theorem attTK_ok {h : Aa} {k g : Int} (e : (Vk h k g).2 = 0) : (Bm h.tasks k).isSome = true ∧ Bd h.tree g = true ∧ Lg h.tree g = 0 ∧ Gw h.tree g = Gw h.tree (AcE h k) ∧ Vk h k g = ({ tree := h.tree,tasks := h.tasks.map (Qd k g),next := h.next },0) := by
 unfold Vk at e ⊢
 split at e
 ·simp at e
 split at e
 ·rename_i h2
  simp at e h2
  exact absurd e h2
 split at e
 ·simp at e
 rename_i h1 h2 h3
 simp only [Bool.not_eq_true',Bool.and_eq_false_iff,not_or,Bool.not_eq_false] at h1
 simp only [bne_iff_ne,Decidable.not_not] at h2 h3
 refine ⟨h1.1,h1.2,h2,h3,?_⟩
 rw [h1.1,h1.2,h2,h3]
 simp
theorem ldr_map {h : Aa} {fn : An → An} (hf : ∀ y,(fn y).id = y.id ∧ (fn y).process = y.process) (hz : ∀ y ∈ h.tasks,(Bm h.tasks y.process).isSome = true) {y : An} (hy : y ∈ h.tasks) {h' : Aa} (hk : h'.tasks = h.tasks.map fn) : Tl h' (fn y) = fn (Tl h y) := by
 unfold Tl
 rw [hk,(hf y).2,AeJ fun z _ => (hf z).1]
 cases e : Bm h.tasks y.process with
 | none =>
  have := hz y hy
  rw [e] at this
  simp at this
 | some p => rfl
theorem Amv {h : Aa} (f : Bh h) {k g : Int} (e : (Vk h k g).2 = 0) : Bh (Vk h k g).1 := by
 have w := f.snd.wf
 obtain ⟨h1,h2,h3,h4,h5⟩ := attTK_ok e
 have hp := Abt h1 h2
 have w' := AcQ w hp rfl
 rw [h5]
 have hdom : ∀ y ∈ h.tasks,Gw h.tree (Qd k g y).group = Gw h.tree y.group := by
  intro y hy
  unfold Qd
  split
  ·rename_i ey
   have ey : y.id = k := by simpa using ey
   rw [h4]
   unfold AcE
   rw [← ey,AgU w.sorted hy]
   rfl
  ·rfl
 refine Aje f w' rfl (fun x hx => ?_) fun x hx => ?_
 ·obtain ⟨y,hy,rfl⟩ := List.mem_map.mp hx
  unfold Qd
  split
  ·exact .inr h3
  ·exact .inl ⟨y,hy,rfl⟩
 ·obtain ⟨y,hy,rfl⟩ := List.mem_map.mp hx
  have hl := AbT w hy
  rw [ldr_map (h := h) (fun z => ⟨(Kr k g z).1,(Kr k g z).2.1⟩) (fun z hz => by rw [(AbT w hz).1]; rfl) hy rfl,hdom y hy,hdom _ hl.2.1]
  exact f.dom y hy
def Zd (h : Aa) (k g : Int) : Aa × Int :=
 if !((Bm h.tasks k).isSome && (((Bm h.tasks k).getD zK).process == k) && Bd h.tree g) then (zH,4) else if Dn h.tree g == 2 then (zH,10) else if Lg h.tree g != 0 then (zH,Lg h.tree g)
 else ({ tree := h.tree,tasks := h.tasks.map (Sm k g),next := h.next },0)
theorem Afb {h : Aa} (f : Bh h) (k g : Int) : Qb h k g = some (Zd h k g) := by
 have w := f.snd.wf
 have l1 := w.len
 unfold Qb Zd
 rw [La f,Option.bind_some,if_neg (by simp),AeN w,Option.bind_some]
 cases hk : (Bm h.tasks k).isSome with
 | false => rfl
 | true =>
  simp only [Bool.not_true,Bool.false_eq_true,if_false,Bool.true_and]
  cases hp : (((Bm h.tasks k).getD zK).process == k) with
  | false =>
   have : (((Bm h.tasks k).getD zK).process != k) = true := by simpa using hp
   rw [this]
   rfl
  | true =>
   have : (((Bm h.tasks k).getD zK).process != k) = false := by simpa using hp
   rw [this]
   simp only [Bool.false_eq_true,if_false,Bool.true_and]
   rw [Hd w.tree,Option.bind_some]
   cases hg : Bd h.tree g with
   | false => rfl
   | true =>
    unfold Kg
    simp only [Bool.not_true,Bool.false_eq_true,if_false]
    rw [Qc w.tree,Option.bind_some]
    cases h2 : (Dn h.tree g == 2) with
    | true => rfl
    | false =>
     simp only [Bool.false_eq_true,if_false]
     rw [AaU f,Option.bind_some]
     cases ha : (Lg h.tree g != 0) with
     | true => rfl
     | false =>
      simp only [Bool.false_eq_true,if_false]
      refine Ok.eq ?_
      refine Ok.step (Zu w k) ?_
      have hlen : (Dx h k).length ≤ h.tasks.length := by
       unfold Dx
       rw [List.length_map]
       exact List.length_filter_le _ _
      refine Ok.guard (by omega) ?_
      let put : List Int → An → An := fun pre y => if pre.contains y.id then { id := y.id,process := y.process,group := g,user := y.user } else y
      have hput : ∀ pre y,(put pre y).id = y.id := fun pre y => by
       show (if pre.contains y.id then _ else _ : An).id = y.id
       split <;> rfl
      refine Ok.range (fun pre s => WfH s ∧ s = { tree := h.tree,tasks := h.tasks.map (put pre),next := h.next }) ⟨w,?_⟩ ?_ ?_
      ·have : h.tasks.map (put []) = h.tasks := by
        rw [List.map_congr_left (g := id) fun y _ => by simp [put]]
        simp
       rw [this]
      ·intro pre x post s n he ⟨i1,i2⟩ hn
       unfold Wy
       refine Ok.step (Xs i1 x g) (hn _ ?_)
       have hx : (Bm s.tasks x).isSome = true := by
        rw [i2]
        simp only
        rw [AeJ fun y _ => hput pre y,Option.isSome_map]
        have : x ∈ Dx h k := by rw [he]; simp
        unfold Dx at this
        obtain ⟨y,hy,rfl⟩ := List.mem_map.mp this
        rw [AgU w.sorted (List.mem_filter.mp hy).1]
        rfl
       have hpl := Abt hx (by rw [i2]; exact hg)
       refine ⟨?_,?_⟩
       ·rw [hpl]
        exact AcQ i1 hpl rfl
       ·rw [hpl,i2]
        simp only [List.map_map]
        congr 1
        refine List.map_congr_left fun y _ => ?_
        show Qd x g (put pre y) = put (pre ++ [x]) y
        unfold Qd
        rw [hput]
        simp only [put]
        by_cases e1 : y.id = x
        ·subst e1
         simp
         split <;> exact ⟨rfl,rfl⟩
        ·have e1' : (y.id == x) = false := by simpa using e1
         rw [e1']
         simp [e1]
      ·rintro s ⟨_,i2⟩
       refine Ok.ret ?_
       rw [i2]
       congr 2
       refine List.map_congr_left fun y hy => ?_
       show put (Dx h k) y = Sm k g y
       simp only [put,Sm]
       have : (Dx h k).contains y.id = (y.process == k) := by
        unfold Dx
        rw [Bool.eq_iff_iff,List.contains_iff_mem,List.mem_map]
        constructor
        ·rintro ⟨z,hz,e⟩
         obtain ⟨hz1,hz2⟩ := List.mem_filter.mp hz
         rw [← AdD w.sorted hz1 hy e]
         exact hz2
        ·intro e
         exact ⟨y,List.mem_filter.mpr ⟨hy,e⟩,rfl⟩
       rw [this]
theorem attK_ok {h : Aa} {k g : Int} (e : (Zd h k g).2 = 0) : (Bm h.tasks k).isSome = true ∧ ((Bm h.tasks k).getD zK).process = k ∧ Bd h.tree g = true ∧ Dn h.tree g ≠ 2 ∧ Lg h.tree g = 0 ∧ Zd h k g = ({ tree := h.tree,tasks := h.tasks.map (Sm k g),next := h.next },0) := by
 unfold Zd at e ⊢
 split at e
 ·simp at e
 split at e
 ·simp at e
 split at e
 ·rename_i h2
  simp at e h2
  exact absurd e h2
 rename_i h1 h2 h3
 rw [if_neg h1,if_neg h2,if_neg h3]
 simp only [Bool.not_eq_true',Bool.not_eq_false,Bool.and_eq_true,beq_iff_eq] at h1
 simp only [bne_iff_ne,Decidable.not_not] at h3
 exact ⟨h1.1.1,h1.1.2,h1.2,by simpa using h2,h3,rfl⟩
theorem Akp (k g : Int) (y : An) : (Sm k g y).id = y.id ∧ (Sm k g y).process = y.process ∧ (Sm k g y).user = y.user := by
 unfold Sm
 split <;> exact ⟨rfl,rfl,rfl⟩
theorem attK_fits {h : Aa} (f : Bh h) {k g : Int} (e : (Zd h k g).2 = 0) : Bh (Zd h k g).1 := by
 have w := f.snd.wf
 obtain ⟨h1,h2,h3,h4,h5,h6⟩ := attK_ok e
 have hr := Afb f k g
 have w' := (ok_at (AjC h k g) hr e).1
 rw [h6] at w' ⊢
 refine Aje f w' rfl (fun x hx => ?_) fun x hx => ?_
 ·obtain ⟨y,hy,rfl⟩ := List.mem_map.mp hx
  unfold Sm
  split
  ·exact .inr h5
  ·exact .inl ⟨y,hy,rfl⟩
 ·obtain ⟨y,hy,rfl⟩ := List.mem_map.mp hx
  have hl := AbT w hy
  rw [ldr_map (h := h) (fun z => ⟨(Akp k g z).1,(Akp k g z).2.1⟩) (fun z hz => by rw [(AbT w hz).1]; rfl) hy rfl]
  unfold Sm
  rw [hl.2.2.2]
  split
  ·rfl
  ·exact f.dom y hy
section
variable {t t' : Af} {fn : Ah → Ah}
end
section
variable {t t' : Af} {p : Int} {s : ByteArray}
structure Grown (t t' : Af) (p : Int) (s : ByteArray) : Prop where
 nodes : t'.nodes = t.nodes ++ [{ id := t.next,parent := p,name := s,control := 0,kind := 0,owner := 0 }]
 next : t'.next = t.next + 1
 par : Bd t p = true
 wf : WfT t
 wf' : WfT t'
 room : (upT t p).length < 9
 fresh : ∀ x ∈ t.nodes,x.parent = p → Cz x.name s = false
theorem AmZ (w : WfT t) {r : Af × Int × Int} (e : Yf t p s = r) (hr : r.2.2 = 0) : Grown t r.1 p s ∧ r.2.1 = t.next := by
 have wf' := addT_wf w e hr
 unfold Yf at e
 split at e
 ·subst e; simp at hr
 split at e
 ·subst e; simp at hr
 split at e
 ·subst e; simp at hr
 split at e
 ·subst e; simp at hr
 rename_i h1 h2 h3 h4
 subst e
 simp only [Bool.or_eq_true,decide_eq_true_eq,not_or] at h4
 refine ⟨⟨rfl,rfl,by simpa using h2,w,wf',by omega,fun x hx e => ?_⟩,rfl⟩
 cases hb : Cz x.name s
 ·rfl
 ·exact absurd (List.any_eq_true.mpr ⟨x,hx,by simp [e,hb]⟩) h3
theorem Grown.lt (g : Grown t t' p s) : ∀ x ∈ t.nodes,x.id < t.next := g.wf.next
theorem Grown.get (g : Grown t t' p s) {a : Int} (h : a ≠ t.next) : Hr t' a = Hr t a := by
 unfold Hr
 rw [g.nodes,List.find?_append]
 have : ([{ id := t.next,parent := p,name := s,control := 0,kind := 0,owner := 0 }] : List Ah).find? (fun x => x.id == a) = none := by
  simp
  omega
 rw [this,Option.or_none]
theorem Grown.getNone (g : Grown t t' p s) : Hr t t.next = none := by
 unfold Hr
 rw [List.find?_eq_none]
 intro x hx
 have := g.lt x hx
 simp
 omega
theorem Grown.getNew (g : Grown t t' p s) : Hr t' t.next = some { id := t.next,parent := p,name := s,control := 0,kind := 0,owner := 0 } := by
 have := g.getNone
 unfold Hr at this ⊢
 rw [g.nodes,List.find?_append,this]
 simp
theorem Grown.has (g : Grown t t' p s) {a : Int} (h : a ≠ t.next) : Bd t' a = Bd t a := by
 unfold Bd
 rw [g.get h]
theorem Grown.node (g : Grown t t' p s) (a : Int) : (At t' a).control = (At t a).control ∧ (At t' a).kind = (At t a).kind := by
 unfold At
 by_cases h : a = t.next
 ·subst h
  rw [g.getNew,g.getNone]
  exact ⟨rfl,rfl⟩
 ·rw [g.get h]
  exact ⟨rfl,rfl⟩
theorem Grown.thr (g : Grown t t' p s) : Dj t' = Dj t := by
 funext a
 unfold Dj
 rw [(g.node a).2]
theorem Grown.up (g : Grown t t' p s) {a : Int} (h : a ≠ t.next) : upT t' a = upT t a := by
 unfold upT
 rw [g.nodes]
 exact Acc (fun e => h e.symm)
theorem Grown.dom (g : Grown t t' p s) {a : Int} (h : a ≠ t.next) : Gw t' a = Gw t a := by
 unfold Gw
 rw [g.up h,g.thr]
theorem Grown.thrNew (g : Grown t t' p s) : Dj t t.next = false := by
 unfold Dj At
 rw [g.getNone]
 rfl
theorem Grown.type (g : Grown t t' p s) {a : Int} (h : a ≠ t.next) : Dn t' a = Dn t a := by
 have hk : (Gk t' a).any (Dj t) = (Gk t a).any (Dj t) := by
  unfold Gk
  rw [g.nodes,List.filter_append,List.map_append,List.any_append]
  have : ((([{ id := t.next,parent := p,name := s,control := 0,kind := 0,owner := 0 }] : List Ah).filter (fun x => x.parent == a)).map (·.id)).any (Dj t) = false := by
   rw [List.filter_cons]
   split
   ·simp [g.thrNew]
   ·simp
  rw [this,Bool.or_false]
 unfold Dn Tf
 rw [g.has h,g.up h,g.thr,hk]
theorem Amm {h : Aa} (f : Bh h) {tr : Af} (g : Grown h.tree tr p s) : Bh { tree := tr,tasks := h.tasks,next := h.next } := by
 have w := f.snd.wf
 have hne : ∀ x ∈ h.tasks,x.group ≠ h.tree.next := fun x hx e => by
  obtain ⟨n,hn,en⟩ := hasN_iff.mp (w.val x hx).grp
  have := g.lt n hn
  omega
 have w' : WfH { tree := tr,tasks := h.tasks,next := h.next } := by
  refine ⟨g.wf',w.len,w.n1,w.n2,w.sorted,w.lt,fun x hx => ?_⟩
  have v := w.val x hx
  refine ⟨v.pos,?_,v.u1,v.u2,v.ldr⟩
  show Bd tr x.group = true
  rw [g.has (hne x hx)]
  exact v.grp
 have hk : ∀ a,Hk { tree := tr,tasks := h.tasks,next := h.next } a = Hk h a := fun _ => rfl
 have hpar : ∀ y ∈ h.tree.nodes,y.parent ≠ h.tree.next := fun y hy => by
  have := w.tree.par_lt hy
  have := g.lt y hy
  omega
 refine ⟨⟨w',fun x hx => ?_⟩,fun x hx => ?_,fun x hx => ?_⟩
 ·have hx' : x ∈ tr.nodes := hx
  rw [g.nodes] at hx'
  rcases List.mem_append.mp hx' with hx' | hx'
  ·have sn := f.snd.snd x hx'
   have e1 : Ns tr x = Ns h.tree x := by
    unfold Ns Abb
    rw [(g.node x.parent).1]
   exact ⟨by show Az .i64 x.control (Ns tr x) = 0; rw [e1]; exact sn.av,sn.busy⟩
  ·obtain rfl : x = { id := h.tree.next,parent := p,name := s,control := 0,kind := 0,owner := 0 } := by simpa using hx'
   refine ⟨?_,fun _ h2 => ?_⟩
   ·have : ∀ c : Int,Az .i64 0 c = 0 := fun c => by simp [Az]; rfl
    exact this _
   ·exact absurd (by decide : kand .i64 0 6 = 0) h2
 ·have hx' : x ∈ h.tasks := hx
  have hl := AbT w hx'
  show Gw tr x.group = Gw tr (Tl h x).group
  rw [g.dom (hne x hx'),g.dom (hne _ hl.2.1)]
  exact f.dom x hx'
 ·have hx' : x ∈ tr.nodes := hx
  rw [g.nodes] at hx'
  rcases List.mem_append.mp hx' with hx' | hx'
  ·have n := f.nod x hx'
   have hid : x.id ≠ h.tree.next := by
    have := g.lt x hx'
    omega
   refine ⟨fun h3 => ?_,fun h1 => ?_⟩
   ·have h3' : Dn tr x.id = 3 := h3
    rw [g.type hid] at h3'
    exact n.inv h3'
   ·show (x.parent ≠ 1 → kand .i64 (At tr x.parent).control 6 = 0) ∧ Dn tr x.parent ≠ 3
    rw [(g.node x.parent).1,g.type (hpar x hx')]
    exact n.thr h1
  ·obtain rfl : x = { id := h.tree.next,parent := p,name := s,control := 0,kind := 0,owner := 0 } := by simpa using hx'
   refine ⟨fun _ => ⟨rfl,?_⟩,fun h1 => ?_⟩
   ·rw [hk,Akg]
    exact hne
   ·simp at h1
end
end Go.Dm

/- Models of Go types and functions, printed by a program. -/
namespace Go.Dm
set_option linter.unusedVariables false
end Go.Dm

/- Models of Go types and functions, printed by a program. -/
namespace Go.Dm
set_option linter.unusedVariables false
def Ow (p0 : Int) : Option (Af × Int × Int) := (some (({ nodes := [],next := 0 } : Af),0,p0))
def AgI (p1 : Int) (p2 : ByteArray) (k1 : Nat) (x1 : Ah) (s1 : Unit) (n1 : Unit → Option Int) : Option Int := (if ((x1.parent == p1) && (Cz x1.name p2)) then (some x1.id) else (n1 ()))
def Ags (s1 : Unit) : Option Int := (some 0)
def Xz (p0 : Af) (p1 : Int) (p2 : ByteArray) : Option Int := (if p0.nodes.length ≤ 9223372036854775807 then Bi (AgI p1 p2) Ags p0.nodes 0 () else none)
def Rj (p0 : Af) : Option Af := (Option.bind (Kx p0) fun r1 => (if (!r1) then (some ({ nodes := [],next := 0 } : Af)) else (some p0)))
def Va (p0 : Af) (p1 : Int) : Option (List Int) := (Option.bind (Rj p0) fun r1 => (Option.bind (Dv r1 p1) fun r2 => (some r2)))
def Xv (p0 : Af) (p1 : Int) : Option Int := (Option.bind (Va p0 p1) fun r1 => (some (w64 (((r1.length : Nat) : Int) - 1))))
def Vm (p0 : Af) (p1 : Int) (p2 : ByteArray) (y2 : Bool) : Option (Af × Int × Int) := (if y2 then (Option.bind (Ow 7) fun r16 => (some (r16.1,r16.2.1,r16.2.2))) else (Option.bind (Pz p0) fun r17 => (if r17.nodes.length + 1 ≤ 1073741824 then (some (({ nodes := (r17.nodes ++ [({ id := p0.next,parent := p1,name := p2,control := 0,kind := 0,owner := 0 } : Ah)]),next := (w64 (r17.next + 1)) } : Af),p0.next,0)) else none)))
def Yy (p0 : Af) (p1 : Int) (p2 : ByteArray) (y1 : Bool) : Option (Af × Int × Int) := (if y1 then (Option.bind (Ow 1) fun r5 => (some (r5.1,r5.2.1,r5.2.2))) else (Option.bind (En p0 p1) fun r6 => (if (decide (r6 < 0)) then (Option.bind (Ow 4) fun r8 => (some (r8.1,r8.2.1,r8.2.2))) else (Option.bind (Xz p0 p1 p2) fun r9 => (if (r9 != 0) then (Option.bind (Ow 5) fun r11 => (some (r11.1,r11.2.1,r11.2.2))) else (Option.bind (Xv p0 p1) fun r12 => (if (decide (r12 ≥ 8)) then ((Vm p0 p1 p2) true) else (if (decide (((p0.nodes.length : Nat) : Int) ≥ 64)) then ((Vm p0 p1 p2) true) else ((Vm p0 p1 p2) (decide (p0.next > 2147483647)))))))))))
def Acf (p0 : Af) (p1 : Int) (p2 : ByteArray) : Option (Af × Int × Int) := (Option.bind (Kx p0) fun r1 => (if (!r1) then ((Yy p0 p1 p2) true) else (Option.bind (Vf p2) fun r3 => ((Yy p0 p1 p2) (!r3)))))
def Pb (p0 : Aa) (p1 : Int) (p2 : ByteArray) : Option (Aa × Int × Int) := (Option.bind (Ct p0) fun r1 => (if (!r1) then (some (({ tree := ({ nodes := [],next := 0 } : Af),tasks := [],next := 0 } : Aa),0,1)) else (Option.bind (Acf p0.tree p1 p2) fun r3 => (if (r3.2.2 != 0) then (some (({ tree := ({ nodes := [],next := 0 } : Af),tasks := [],next := 0 } : Aa),0,r3.2.2)) else (Option.bind (Ll p0) fun r5 => (some (({ tree := r3.1,tasks := r5.tasks,next := r5.next } : Aa),r3.2.1,0)))))))
def Bj (p0 : Int) : Option (Aa × Int) := (some (({ tree := ({ nodes := [],next := 0 } : Af),tasks := [],next := 0 } : Aa),p0))
def AaH (p0 : Af) (p1 : Int) : Option (Ah × Bool) := (Option.bind (Rj p0) fun r1 => (Option.bind (Er r1 p1) fun r2 => (some (r2.1,r2.2))))
def Adi (p1 : Int) (k1 : Nat) (x1 : Ah) (s1 : Unit) (n1 : Unit → Option Int) : Option Int := (if ((x1.parent == p1) && (x1.kind == 1)) then (some 1) else (n1 ()))
def AcO (s1 : Unit) : Option Int := (some 0)
def So (p0 : Af) (p1 : Int) : Option Int := (Option.bind (AaH p0 p1) fun r1 => (if (!r1.2) then (some 0) else (if (r1.1.kind == 1) then (some 2) else (Option.bind (Gt p0 p1) fun r4 => (if r4 then (some 3) else (if p0.nodes.length ≤ 9223372036854775807 then Bi (Adi p1) AcO p0.nodes 0 () else none))))))
def Iw (r4 : Int) (r19 : Aa) (y2 : Bool) : Option (Aa × Int) := (if y2 then (Option.bind (Bj 6) fun r26 => (some (r26.1,r26.2))) else (some (({ tree := ({ nodes := (r19.tree.nodes.set (Int.toNat r4) ({ id := (r19.tree.nodes.getD (Int.toNat r4) (default : Ah)).id,parent := (r19.tree.nodes.getD (Int.toNat r4) (default : Ah)).parent,name := (r19.tree.nodes.getD (Int.toNat r4) (default : Ah)).name,control := (r19.tree.nodes.getD (Int.toNat r4) (default : Ah)).control,kind := 1,owner := (r19.tree.nodes.getD (Int.toNat r4) (default : Ah)).owner } : Ah)),next := r19.tree.next } : Af),tasks := r19.tasks,next := r19.next } : Aa),0)))
def Gr (p0 : Aa) (p1 : Int) (r4 : Int) (y1 : Bool) : Option (Aa × Int) := (if y1 then (Option.bind (Bj 10) fun r16 => (some (r16.1,r16.2))) else (if ((kand .i64 (p0.tree.nodes.getD (Int.toNat r4) (default : Ah)).control 6) != 0) then (Option.bind (Bj 9) fun r18 => (some (r18.1,r18.2))) else (Option.bind (Ll p0) fun r19 => (if 0 ≤ r4 ∧ r4 < ((r19.tree.nodes.length : Nat) : Int) then (if (Int.toNat r4) < r19.tree.nodes.length then (Option.bind (Ms p0 p1) fun r22 => (if (decide (((r22.length : Nat) : Int) > 0)) then ((Iw r4 r19) true) else (Option.bind (Ct ({ tree := ({ nodes := (r19.tree.nodes.set (Int.toNat r4) ({ id := (r19.tree.nodes.getD (Int.toNat r4) (default : Ah)).id,parent := (r19.tree.nodes.getD (Int.toNat r4) (default : Ah)).parent,name := (r19.tree.nodes.getD (Int.toNat r4) (default : Ah)).name,control := (r19.tree.nodes.getD (Int.toNat r4) (default : Ah)).control,kind := 1,owner := (r19.tree.nodes.getD (Int.toNat r4) (default : Ah)).owner } : Ah)),next := r19.tree.next } : Af),tasks := r19.tasks,next := r19.next } : Aa)) fun r24 => ((Iw r4 r19) (!r24))))) else none) else none))))
def Nt (p0 : Aa) (p1 : Int) : Option (Aa × Int) := (Option.bind (Ct p0) fun r1 => (if (!r1) then (Option.bind (Bj 1) fun r3 => (some (r3.1,r3.2))) else (Option.bind (En p0.tree p1) fun r4 => (if (decide (r4 < 0)) then (Option.bind (Bj 4) fun r6 => (some (r6.1,r6.2))) else (if 0 ≤ r4 ∧ r4 < ((p0.tree.nodes.length : Nat) : Int) then (Option.bind (Er p0.tree (p0.tree.nodes.getD (Int.toNat r4) (default : Ah)).parent) fun r8 => (if ((p1 == 1) || ((p0.tree.nodes.getD (Int.toNat r4) (default : Ah)).kind == 1)) then (Option.bind (Bj 9) fun r11 => (some (r11.1,r11.2))) else (Option.bind (So p0.tree (p0.tree.nodes.getD (Int.toNat r4) (default : Ah)).parent) fun r12 => (if (r12 == 3) then ((Gr p0 p1 r4) true) else (if ((p0.tree.nodes.getD (Int.toNat r4) (default : Ah)).parent != 1) then ((Gr p0 p1 r4) ((kand .i64 r8.1.control 6) != 0)) else ((Gr p0 p1 r4) false)))))) else none)))))
def Mj (n1 : (List An) → Option (Aa × Int)) (y3 : List An) : Option (Aa × Int) := (n1 y3)
def Vw (p1 : Int) (p2 : Int) (k1 : Int) (s1 : List An) (n1 : (List An) → Option (Aa × Int)) : Option (Aa × Int) := (if 0 ≤ k1 ∧ k1 < ((s1.length : Nat) : Int) then (if (Int.toNat k1) < s1.length then (if ((s1.getD (Int.toNat k1) (default : An)).process == p1) then (if 0 ≤ k1 ∧ k1 < ((s1.length : Nat) : Int) then (if (Int.toNat k1) < s1.length then ((Mj n1) (s1.set (Int.toNat k1) ({ id := (s1.getD (Int.toNat k1) (default : An)).id,process := (s1.getD (Int.toNat k1) (default : An)).process,group := p2,user := (s1.getD (Int.toNat k1) (default : An)).user } : An))) else none) else none) else ((Mj n1) s1)) else none) else none)
def Abj (r15 : Aa) (s1 : List An) : Option (Aa × Int) := (some (({ tree := r15.tree,tasks := s1,next := r15.next } : Aa),0))
def Pj (p0 : Aa) (p1 : Int) (p2 : Int) : Option (Aa × Int) := (Option.bind (Ct p0) fun r1 => (if (!r1) then (Option.bind (Bj 1) fun r3 => (some (r3.1,r3.2))) else (Option.bind (Pq p0 p1) fun r4 => (Option.bind (Er p0.tree p2) fun r5 => (if (((!r4.2) || (r4.1.process != p1)) || (!r5.2)) then (Option.bind (Bj 4) fun r9 => (some (r9.1,r9.2))) else (if (r5.1.kind == 1) then (Option.bind (Bj 10) fun r11 => (some (r11.1,r11.2))) else (Option.bind (Ls p0 p2) fun r12 => (if (r12 != 0) then (Option.bind (Bj r12) fun r14 => (some (r14.1,r14.2))) else (Option.bind (Ll p0) fun r15 => (if r15.tasks.length ≤ 9223372036854775807 then (forO (Vw p1 p2) (Abj r15) (Int.toNat (((r15.tasks.length : Nat) : Int) - 0)) 0 r15.tasks) else none))))))))))
def Hj (p0 : Aa) (p2 : Int) (r4 : Int) (y1 : Bool) : Option (Aa × Int) := (if y1 then (Option.bind (Bj 4) fun r8 => (some (r8.1,r8.2))) else (Option.bind (Ls p0 p2) fun r9 => (if (r9 != 0) then (Option.bind (Bj r9) fun r11 => (some (r11.1,r11.2))) else (if 0 ≤ r4 ∧ r4 < ((p0.tasks.length : Nat) : Int) then (Option.bind (Hn p0.tree (p0.tasks.getD (Int.toNat r4) (default : An)).group) fun r13 => (Option.bind (Hn p0.tree p2) fun r14 => (if (r13 != r14) then (Option.bind (Bj 9) fun r16 => (some (r16.1,r16.2))) else (Option.bind (Ll p0) fun r17 => (if 0 ≤ r4 ∧ r4 < ((r17.tasks.length : Nat) : Int) then (if (Int.toNat r4) < r17.tasks.length then (some (({ tree := r17.tree,tasks := (r17.tasks.set (Int.toNat r4) ({ id := (r17.tasks.getD (Int.toNat r4) (default : An)).id,process := (r17.tasks.getD (Int.toNat r4) (default : An)).process,group := p2,user := (r17.tasks.getD (Int.toNat r4) (default : An)).user } : An)),next := r17.next } : Aa),0)) else none) else none))))) else none))))
def Iq (p0 : Aa) (p1 : Int) (p2 : Int) : Option (Aa × Int) := (Option.bind (Ct p0) fun r1 => (if (!r1) then (Option.bind (Bj 1) fun r3 => (some (r3.1,r3.2))) else (Option.bind (Vn p0 p1) fun r4 => (if (decide (r4 < 0)) then ((Hj p0 p2 r4) true) else (Option.bind (En p0.tree p2) fun r6 => ((Hj p0 p2 r4) (decide (r6 < 0))))))))
def Sx (p0 : Int) : Option Bool := (some ((decide (p0 ≥ 0)) && ((Az .i64 p0 31) == 0)))
def Adk (p1 : Int) (p3 : Int) (k1 : Nat) (x1 : Ah) (s1 : Unit) (n1 : Unit → Option (Aa × Int)) : Option (Aa × Int) := (if ((x1.parent == p1) && ((kand .i64 x1.control p3) != 0)) then (some (({ tree := ({ nodes := [],next := 0 } : Af),tasks := [],next := 0 } : Aa),9)) else (n1 ()))
def Jx (p0 : Aa) (p2 : Int) (p3 : Int) (r8 : Int) (y4 : Bool) : Option (Aa × Int) := (if y4 then (some (({ tree := ({ nodes := [],next := 0 } : Af),tasks := [],next := 0 } : Aa),6)) else (Option.bind (Ll p0) fun r42 => (if 0 ≤ r8 ∧ r8 < ((r42.tree.nodes.length : Nat) : Int) then (if (Int.toNat r8) < r42.tree.nodes.length then (some (({ tree := ({ nodes := (r42.tree.nodes.set (Int.toNat r8) ({ id := (r42.tree.nodes.getD (Int.toNat r8) (default : Ah)).id,parent := (r42.tree.nodes.getD (Int.toNat r8) (default : Ah)).parent,name := (r42.tree.nodes.getD (Int.toNat r8) (default : Ah)).name,control := (kor .i64 (Az .i64 (p0.tree.nodes.getD (Int.toNat r8) (default : Ah)).control p3) p2),kind := (r42.tree.nodes.getD (Int.toNat r8) (default : Ah)).kind,owner := (r42.tree.nodes.getD (Int.toNat r8) (default : Ah)).owner } : Ah)),next := r42.tree.next } : Af),tasks := r42.tasks,next := r42.next } : Aa),0)) else none) else none)))
def Tv (p0 : Aa) (p1 : Int) (p2 : Int) (p3 : Int) (r8 : Int) (s1 : Unit) : Option (Aa × Int) := (if ((kand .i64 (Az .i64 (kor .i64 (Az .i64 (p0.tree.nodes.getD (Int.toNat r8) (default : Ah)).control p3) p2) (p0.tree.nodes.getD (Int.toNat r8) (default : Ah)).control) 6) != 0) then (if (p1 != 1) then (Option.bind (Ms p0 p1) fun r40 => ((Jx p0 p2 p3 r8) (decide (((r40.length : Nat) : Int) > 0)))) else ((Jx p0 p2 p3 r8) false)) else ((Jx p0 p2 p3 r8) false))
def Jj (p0 : Aa) (p1 : Int) (p2 : Int) (p3 : Int) (y1 : Bool) : Option (Aa × Int) := (if y1 then (some (({ tree := ({ nodes := [],next := 0 } : Af),tasks := [],next := 0 } : Aa),1)) else (Option.bind (En p0.tree p1) fun r8 => (if (decide (r8 < 0)) then (some (({ tree := ({ nodes := [],next := 0 } : Af),tasks := [],next := 0 } : Aa),4)) else (if 0 ≤ r8 ∧ r8 < ((p0.tree.nodes.length : Nat) : Int) then (Option.bind (Qu p0.tree (p0.tree.nodes.getD (Int.toNat r8) (default : Ah))) fun r11 => (if ((Az .i64 p2 r11) != 0) then (some (({ tree := ({ nodes := [],next := 0 } : Af),tasks := [],next := 0 } : Aa),9)) else (if p0.tree.nodes.length ≤ 9223372036854775807 then Bi (Adk p1 p3) (Tv p0 p1 p2 p3 r8) p0.tree.nodes 0 () else none))) else none))))
def Sg (p0 : Aa) (p1 : Int) (p2 : Int) (p3 : Int) : Option (Aa × Int) := (Option.bind (Mc p0) fun r1 => (if (!r1) then ((Jj p0 p1 p2 p3) true) else (Option.bind (Sx p2) fun r3 => (if (!r3) then ((Jj p0 p1 p2 p3) true) else (Option.bind (Sx p3) fun r5 => (if (!r5) then ((Jj p0 p1 p2 p3) true) else ((Jj p0 p1 p2 p3) ((kand .i64 p2 p3) != 0))))))))
def Pd (p0 : Aa) (p1 : Int) (p2 : Int) (p3 : Int) : Option (Aa × Int) := (Option.bind (Ct p0) fun r1 => (if (!r1) then (Option.bind (Bj 1) fun r3 => (some (r3.1,r3.2))) else (Option.bind (Sg p0 p1 p2 p3) fun r4 => (if (r4.2 != 0) then (Option.bind (Bj r4.2) fun r6 => (some (r6.1,r6.2))) else (Option.bind (Ct r4.1) fun r7 => (if (!r7) then (Option.bind (Bj 10) fun r9 => (some (r9.1,r9.2))) else (some (r4.1,0))))))))
def Ca (p0 : Int) : Option Bool := (some ((decide (p0 ≥ 0)) && (decide (p0 ≤ 1048576))))
def Ts (p0 : Int) (p1 : Af) (p2 : Int) : Option Bool := (Option.bind (Er p1 p0) fun r1 => (some (r1.1.owner == p2)))
def Gg (p1c0 : Af) (p1c1 : Int) (k1 : Nat) (x1 : Int) (s1 : Unit) (n1 : Unit → Option Int) : Option Int := (Option.bind (Ts x1 p1c0 p1c1) fun r10 => (if r10 then (some ((k1 : Nat) : Int)) else (n1 ())))
def Kk (s1 : Unit) : Option Int := (some (-1))
def Eo (p0 : List Int) (p1c0 : Af) (p1c1 : Int) : Option Int := (if p0.length ≤ 9223372036854775807 then Bi (Gg p1c0 p1c1) Kk p0 0 () else none)
def Du (p0 : List Int) (p1c0 : Af) (p1c1 : Int) : Option Bool := (Option.bind (Eo p0 p1c0 p1c1) fun r1 => (some (decide (r1 ≥ 0))))
def Om (p0 : Af) (p1 : Int) (p2 : List Int) : Option Bool := (Option.bind (Du p2 p0 p1) fun r1 => (some r1))
def Hp (y1 : Bool) : Option Bool := (some y1)
def Ly (p0 : Af) (p1 : Int) (p2 : Int) : Option Bool := (Option.bind (Dv p0 p2) fun r1 => (Option.bind (Ca p1) fun r2 => (if r2 then (if (decide (((r1.length : Nat) : Int) > 0)) then (if (p1 == 0) then (Hp true) else (if 1 ≤ r1.length then (Option.bind (Om p0 p1 ((r1.drop 1).take (Ci r1.length 1))) fun r7 => (Hp r7)) else none)) else (Hp false)) else (Hp false))))
def Ob (p0 : Af) (p1 : Int) (p2 : Int) (p3 : Int) (r1 : Int) (y1 : Bool) : Option (Af × Int) := (if y1 then (some (({ nodes := [],next := 0 } : Af),1)) else (if (decide (r1 < 0)) then (some (({ nodes := [],next := 0 } : Af),4)) else (if (p2 == 1) then (some (({ nodes := [],next := 0 } : Af),9)) else (Option.bind (Ly p0 p1 p2) fun r10 => (if (!r10) then (some (({ nodes := [],next := 0 } : Af),8)) else (Option.bind (Ed p0.nodes) fun r12 => (if 0 ≤ r1 ∧ r1 < ((r12.length : Nat) : Int) then (if (Int.toNat r1) < r12.length then (some (({ nodes := (r12.set (Int.toNat r1) ({ id := (r12.getD (Int.toNat r1) (default : Ah)).id,parent := (r12.getD (Int.toNat r1) (default : Ah)).parent,name := (r12.getD (Int.toNat r1) (default : Ah)).name,control := (r12.getD (Int.toNat r1) (default : Ah)).control,kind := (r12.getD (Int.toNat r1) (default : Ah)).kind,owner := p3 } : Ah)),next := p0.next } : Af),0)) else none) else none)))))))
def Zq (p0 : Af) (p1 : Int) (p2 : Int) (p3 : Int) : Option (Af × Int) := (Option.bind (En p0 p2) fun r1 => (Option.bind (Kx p0) fun r2 => (if (!r2) then ((Ob p0 p1 p2 p3 r1) true) else (Option.bind (Ca p1) fun r4 => (if (!r4) then ((Ob p0 p1 p2 p3 r1) true) else (Option.bind (Ca p3) fun r6 => ((Ob p0 p1 p2 p3 r1) (!r6))))))))
def Im (y1 : Bool) : Option Bool := (some y1)
def Iu (p0 : Af) (p1 : Int) (p2 : Int) : Option Bool := (Option.bind (Ly p0 p1 p2) fun r1 => (if r1 then (Im true) else (Option.bind (Ca p1) fun r3 => (if r3 then (if (p1 != 0) then (Option.bind (Dv p0 p2) fun r6 => (Option.bind (Om p0 p1 r6) fun r7 => (Im r7))) else (Im false)) else (Im false)))))
def Dl (p0 : Aa) (p1 : Int) (p2 : Int) (y1 : Bool) : Option Int := (if y1 then (some 1) else (Option.bind (En p0.tree p2) fun r5 => (if (decide (r5 < 0)) then (some 4) else (Option.bind (Iu p0.tree p1 p2) fun r7 => (if (!r7) then (some 8) else (some 0))))))
def Cq (p0 : Aa) (p1 : Int) (p2 : Int) : Option Int := (Option.bind (Ca p1) fun r1 => (if (!r1) then ((Dl p0 p1 p2) true) else (Option.bind (Ct p0) fun r3 => ((Dl p0 p1 p2) (!r3)))))
def Hl (p0 : Aa) (p1 : Int) (p2 : Int) (p3 : ByteArray) : Option (Aa × Int × Int) := (Option.bind (Cq p0 p1 p2) fun r1 => (if (r1 != 0) then (some (({ tree := ({ nodes := [],next := 0 } : Af),tasks := [],next := 0 } : Aa),0,r1)) else (Option.bind (Pb p0 p2 p3) fun r3 => (some (r3.1,r3.2.1,r3.2.2)))))
def Ck (p0 : Int) : Option (Aa × Int) := (some (({ tree := ({ nodes := [],next := 0 } : Af),tasks := [],next := 0 } : Aa),p0))
def Xt (r1 : List Int) (k1 : Nat) (x1 : Int) (s1 : Unit) (n1 : Unit → Option (Int × Bool)) : Option (Int × Bool) := (Option.bind (Ki r1 x1) fun r14 => (if r14 then (some (x1,true)) else (n1 ())))
def Adg (s1 : Unit) : Option (Int × Bool) := (some (0,false))
def Sl (p0 : Af) (p1 : Int) (p2 : Int) : Option (Int × Bool) := (Option.bind (Dv p0 p2) fun r1 => (Option.bind (Dv p0 p1) fun r2 => (if r2.length ≤ 9223372036854775807 then Bi (Xt r1) Adg r2 0 () else none)))
def Ko (n1 : Unit → Option Int) (y3 : Bool) : Option Int := (if y3 then (some 8) else (n1 ()))
def Xi (p0 : Aa) (p1 : Int) (p2 : Int) (k1 : Nat) (x1 : Int) (s1 : Unit) (n1 : Unit → Option Int) : Option Int := (Option.bind (Pq p0 x1) fun r24 => (Option.bind (Sl p0.tree p2 r24.1.group) fun r25 => (if (p1 != 0) then (if (r24.1.user != p1) then ((Ko n1) true) else (Option.bind (Iu p0.tree p1 r25.1) fun r28 => ((Ko n1) (!r28)))) else (Option.bind (Iu p0.tree p1 r25.1) fun r29 => ((Ko n1) (!r29))))))
def Aci (s1 : Unit) : Option Int := (some 0)
def Ng (p0 : Aa) (p1 : Int) (p2 : Int) (p3 : List Int) : Option Int := (Option.bind (En p0.tree p2) fun r1 => (if (decide (r1 < 0)) then (some 4) else (Option.bind (Iu p0.tree p1 p2) fun r3 => (if (!r3) then (some 8) else (if p3.length ≤ 9223372036854775807 then Bi (Xi p0 p1 p2) Aci p3 0 () else none)))))
def Pe (p0 : Aa) (p1 : Int) (p2 : Int) (p3 : Int) (y1 : Bool) : Option (Aa × Int) := (if y1 then (Option.bind (Ck 1) fun r5 => (some (r5.1,r5.2))) else (Option.bind (Pq p0 p2) fun r6 => (if ((!r6.2) || (r6.1.process != p2)) then (Option.bind (Ck 4) fun r9 => (some (r9.1,r9.2))) else (Option.bind (Uk p0 p2) fun r10 => (Option.bind (Ng p0 p1 p3 r10) fun r11 => (if (r11 != 0) then (Option.bind (Ck r11) fun r13 => (some (r13.1,r13.2))) else (Option.bind (Pj p0 p2 p3) fun r14 => (some (r14.1,r14.2)))))))))
def Hz (p0 : Aa) (p1 : Int) (p2 : Int) (p3 : Int) : Option (Aa × Int) := (Option.bind (Ca p1) fun r1 => (if (!r1) then ((Pe p0 p1 p2 p3) true) else (Option.bind (Ct p0) fun r3 => ((Pe p0 p1 p2 p3) (!r3)))))
def Xp : Option Bool := (Option.bind Aev fun r1 => (Option.bind (Sy r1 1 (bs [97])) fun r2 => (Option.bind (Zq r2.1.tree 0 r2.2.1 7) fun r4 => (Option.bind (Hl ({ tree := r4.1,tasks := r2.1.tasks,next := r2.1.next } : Aa) 7 r2.2.1 (bs [98])) fun r7 => (Option.bind (Rt r7.1 1 7) fun r10 => (Option.bind (Rt r10.1 r2.2.1 7) fun r13 => (Option.bind (Hz r13.1 7 r10.2.1 r2.2.1) fun r16 => (Option.bind (Hz r13.1 7 r13.2.1 r7.2.1) fun r17 => (some ((((r4.2 == 0) && (r7.2.2 == 0)) && (r16.2 == 8)) && (r17.2 == 0)))))))))))
def Py (p0 : Int) : Option Bool := (some ((decide (p0 ≥ 0)) && (decide (p0 ≤ 1048576))))
def AdE (p0 : Af) (p1 : Int) (r1 : List Int) (k1 : Int) (s1 : Unit) (n1 : Unit → Option Bool) : Option Bool := (if 0 ≤ k1 ∧ k1 < ((r1.length : Nat) : Int) then (if (Int.toNat k1) < r1.length then (Option.bind (Cw p0 (r1.getD (Int.toNat k1) 0)) fun r19 => (if (r19.1.owner == p1) then (some true) else (n1 ()))) else none) else none)
def AhC (s1 : Unit) : Option Bool := (some false)
def Ss (p0 : Af) (p1 : Int) (r1 : List Int) (y1 : Bool) : Option Bool := (if y1 then (some false) else (if (p1 == 0) then (some true) else (if r1.length ≤ 9223372036854775807 then (forO (AdE p0 p1 r1) AhC (Int.toNat (((r1.length : Nat) : Int) - 1)) 1 ()) else none)))
def Mt (p0 : Af) (p1 : Int) (p2 : Int) : Option Bool := (Option.bind (Dt p0 p2) fun r1 => (if (((r1.length : Nat) : Int) == 0) then ((Ss p0 p1 r1) true) else (Option.bind (Py p1) fun r3 => ((Ss p0 p1 r1) (!r3)))))
def Lf (y1 : Bool) : Option Bool := (some y1)
def Gz (p0 : Af) (p1 : Int) (p2 : Int) : Option Bool := (Option.bind (Cw p0 p2) fun r1 => (if r1.2 then (Option.bind (Mt p0 p1 p2) fun r3 => (if r3 then (Lf true) else (Option.bind (Py p1) fun r5 => (if r5 then (if (p1 != 0) then (Lf (r1.1.owner == p1)) else (Lf false)) else (Lf false))))) else (Lf false)))
def Iv (p0 : Aa) (p1 : Int) (p2 : Int) (p3 : Int) (y1 : Bool) : Option (Aa × Int) := (if y1 then (Option.bind (Ck 1) fun r5 => (some (r5.1,r5.2))) else (Option.bind (Vn p0 p2) fun r6 => (if (decide (r6 < 0)) then (Option.bind (Ck 4) fun r8 => (some (r8.1,r8.2))) else (Option.bind (Ng p0 p1 p3 [p2]) fun r9 => (if (r9 != 0) then (Option.bind (Ck r9) fun r11 => (some (r11.1,r11.2))) else (Option.bind (Iq p0 p2 p3) fun r12 => (some (r12.1,r12.2))))))))
def Gh (p0 : Aa) (p1 : Int) (p2 : Int) (p3 : Int) : Option (Aa × Int) := (Option.bind (Ca p1) fun r1 => (if (!r1) then ((Iv p0 p1 p2 p3) true) else (Option.bind (Ct p0) fun r3 => ((Iv p0 p1 p2 p3) (!r3)))))
def Qw (p0 : Aa) (p2 : Int) (p3 : Bool) (y1 : Bool) : Option Int := (if y1 then (some 1) else (Option.bind (Ej p0.tree p2) fun r5 => (if (!r5) then (some 4) else (if (!p3) then (some 8) else (some 0)))))
def Ig (p0 : Aa) (p1 : Int) (p2 : Int) (p3 : Bool) : Option Int := (Option.bind (Py p1) fun r1 => (if (!r1) then ((Qw p0 p2 p3) true) else (Option.bind (Fq p0) fun r3 => ((Qw p0 p2 p3) (!r3)))))
def Qf (p0 : Aa) (p1 : Int) (p2 : Int) (p3 : ByteArray) : Option (Aa × Int × Int) := (Option.bind (Gz p0.tree p1 p2) fun r1 => (Option.bind (Ig p0 p1 p2 r1) fun r2 => (if (r2 != 0) then (some (({ tree := ({ nodes := [],next := 0 } : Af),tasks := [],next := 0 } : Aa),0,r2)) else (Option.bind (Sy p0 p2 p3) fun r4 => (some (r4.1,r4.2.1,r4.2.2))))))
def Ds (p0 : Aa) (p1 : Int) (p2 : Int) (y1 : Bool) : Option Int := (if y1 then (some 1) else (Option.bind (En p0.tree p2) fun r5 => (if (decide (r5 < 0)) then (some 4) else (Option.bind (Ly p0.tree p1 p2) fun r7 => (if (!r7) then (some 8) else (some 0))))))
def Cy (p0 : Aa) (p1 : Int) (p2 : Int) : Option Int := (Option.bind (Ca p1) fun r1 => (if (!r1) then ((Ds p0 p1 p2) true) else (Option.bind (Ct p0) fun r3 => ((Ds p0 p1 p2) (!r3)))))
def Jm (p0 : Aa) (p1 : Int) (p2 : Int) : Option (Aa × Int) := (Option.bind (Cy p0 p1 p2) fun r1 => (if (r1 != 0) then (Option.bind (Ck r1) fun r3 => (some (r3.1,r3.2))) else (Option.bind (Se p0 p2) fun r4 => (some (r4.1,r4.2)))))
def Qa (p0 : Aa) (p1 : Int) (p2 : Int) : Option (Aa × Int) := (Option.bind (Mt p0.tree p1 p2) fun r1 => (Option.bind (Ig p0 p1 p2 r1) fun r2 => (if (r2 != 0) then (some (({ tree := ({ nodes := [],next := 0 } : Af),tasks := [],next := 0 } : Aa),r2)) else (Option.bind (Wm p0 p2) fun r4 => (some (r4.1,r4.2))))))
def Io (p0 : Aa) (p1 : Int) (p2 : Int) (p3 : Int) (p4 : Int) : Option (Aa × Int) := (Option.bind (Cq p0 p1 p2) fun r1 => (if (r1 != 0) then (Option.bind (Ck r1) fun r3 => (some (r3.1,r3.2))) else (Option.bind (Pd p0 p2 p3 p4) fun r4 => (some (r4.1,r4.2)))))
def Nr (p0 : Aa) (p1 : Int) (p2 : Int) (p3 : Int) (p4 : Int) : Option (Aa × Int) := (Option.bind (Gz p0.tree p1 p2) fun r1 => (Option.bind (Ig p0 p1 p2 r1) fun r2 => (if (r2 != 0) then (some (({ tree := ({ nodes := [],next := 0 } : Af),tasks := [],next := 0 } : Aa),r2)) else (Option.bind (Mu p0 p2 p3 p4) fun r4 => (some (r4.1,r4.2))))))
def Il (p0 : Aa) (p1 : Int) (p2 : Int) : Option (Aa × Int) := (Option.bind (Cy p0 p1 p2) fun r1 => (if (r1 != 0) then (Option.bind (Ck r1) fun r3 => (some (r3.1,r3.2))) else (Option.bind (Nt p0 p2) fun r4 => (some (r4.1,r4.2)))))
def Nx (p0 : Aa) (p1 : Int) (p2 : Int) : Option (Aa × Int) := (Option.bind (Mt p0.tree p1 p2) fun r1 => (Option.bind (Ig p0 p1 p2 r1) fun r2 => (if (r2 != 0) then (some (({ tree := ({ nodes := [],next := 0 } : Af),tasks := [],next := 0 } : Aa),r2)) else (Option.bind (Lo p0 p2) fun r4 => (some (r4.1,r4.2))))))
def AaS (x1 : Int) (k4 : Nat) (x4 : Int) (s4 : Unit) (n4 : Unit → Option (Int × Bool)) : Option (Int × Bool) := (if (x1 == x4) then (some (x1,true)) else (n4 ()))
def Afg (n1 : Unit → Option (Int × Bool)) (s4 : Unit) : Option (Int × Bool) := (n1 ())
def AaY (r2 : List Int) (k1 : Nat) (x1 : Int) (s1 : Unit) (n1 : Unit → Option (Int × Bool)) : Option (Int × Bool) := (if r2.length ≤ 9223372036854775807 then Bi (AaS x1) (Afg n1) r2 0 () else none)
def AeX (s1 : Unit) : Option (Int × Bool) := (some (0,false))
def Wp (p0 : Af) (p1 : Int) (p2 : Int) : Option (Int × Bool) := (Option.bind (Dt p0 p1) fun r1 => (Option.bind (Dt p0 p2) fun r2 => (if r1.length ≤ 9223372036854775807 then Bi (AaY r2) AeX r1 0 () else none)))
def Pg (y1 : Bool) : Option Bool := (some y1)
def Zl (p0 : Aa) (p1 : Int) (p2 : An) (p3 : Int) : Option Bool := (Option.bind (Wp p0.tree p3 p2.group) fun r1 => (if (p1 == 0) then (Option.bind (Gz p0.tree p1 p3) fun r7 => (if r7 then (Option.bind (Gz p0.tree p1 r1.1) fun r9 => (Pg r9)) else (Pg false))) else (if (p2.user == p1) then (Option.bind (Gz p0.tree p1 p3) fun r4 => (if r4 then (Option.bind (Gz p0.tree p1 r1.1) fun r6 => (Pg r6)) else (Pg false))) else (Pg false))))
def AdH (p0 : Aa) (p1 : Int) (p3 : Int) (k1 : Nat) (x1 : Int) (s1 : Unit) (n1 : Unit → Option (Aa × Int)) : Option (Aa × Int) := (Option.bind (Fr p0 x1) fun r24 => (Option.bind (Zl p0 p1 r24.1 p3) fun r25 => (if (!r25) then (some (({ tree := ({ nodes := [],next := 0 } : Af),tasks := [],next := 0 } : Aa),8)) else (n1 ()))))
def AdI (p0 : Aa) (p2 : Int) (p3 : Int) (s1 : Unit) : Option (Aa × Int) := (Option.bind (Qb p0 p2 p3) fun r27 => (some (r27.1,r27.2)))
def Tb (p0 : Aa) (p1 : Int) (p2 : Int) (p3 : Int) (y1 : Bool) : Option (Aa × Int) := (if y1 then (some (({ tree := ({ nodes := [],next := 0 } : Af),tasks := [],next := 0 } : Aa),4)) else (Option.bind (Qt p0 p2) fun r8 => (if r8.length ≤ 9223372036854775807 then Bi (AdH p0 p1 p3) (AdI p0 p2 p3) r8 0 () else none)))
def Ua (p0 : Aa) (p1 : Int) (p2 : Int) (p3 : Int) : Option (Aa × Int) := (Option.bind (Fr p0 p2) fun r1 => (Option.bind (Ig p0 p1 p3 true) fun r2 => (if (r2 == 1) then (some (({ tree := ({ nodes := [],next := 0 } : Af),tasks := [],next := 0 } : Aa),r2)) else (if (!r1.2) then ((Tb p0 p1 p2 p3) true) else (if (r1.1.process != p2) then ((Tb p0 p1 p2 p3) true) else (Option.bind (Ej p0.tree p3) fun r6 => ((Tb p0 p1 p2 p3) (!r6))))))))
def Mk (p0 : Aa) (p1 : Int) (p2 : Int) (p3 : Int) (r1 : An × Bool) (y1 : Bool) : Option (Aa × Int) := (if y1 then (some (({ tree := ({ nodes := [],next := 0 } : Af),tasks := [],next := 0 } : Aa),4)) else (Option.bind (Zl p0 p1 r1.1 p3) fun r7 => (if (!r7) then (some (({ tree := ({ nodes := [],next := 0 } : Af),tasks := [],next := 0 } : Aa),8)) else (Option.bind (Gf p0 p2 p3) fun r9 => (some (r9.1,r9.2))))))
def Js (p0 : Aa) (p1 : Int) (p2 : Int) (p3 : Int) : Option (Aa × Int) := (Option.bind (Fr p0 p2) fun r1 => (Option.bind (Ig p0 p1 p3 true) fun r2 => (if (r2 == 1) then (some (({ tree := ({ nodes := [],next := 0 } : Af),tasks := [],next := 0 } : Aa),r2)) else (if (!r1.2) then ((Mk p0 p1 p2 p3 r1) true) else (Option.bind (Ej p0.tree p3) fun r5 => ((Mk p0 p1 p2 p3 r1) (!r5)))))))
def Yk (y1 : Aq × Aa × Aa × Int × Int × Int × Int) (y4 : Bool) : Option (Aa × Int × Bool × Aq) := (some (y1.2.2.1,y1.2.2.2.2.1,y4,y1.1))
def Jt (y1 : Aq × Aa × Aa × Int × Int × Int × Int) : Option (Aa × Int × Bool × Aq) := (if (y1.2.2.2.1 == y1.2.2.2.2.1) then (if (y1.2.2.2.2.2.1 == y1.2.2.2.2.2.2) then (Option.bind (Aaw y1.2.1 y1.2.2.1) fun r30 => ((Yk y1) r30)) else ((Yk y1) false)) else ((Yk y1) false))
def Vi (p1 : Aa) (p2 : Int) (r1 : Int × Aq) (y2 : Aq × Int × Int) : Option (Aa × Int × Bool × Aq) := (Option.bind (Io p1 p2 r1.1 y2.2.1 y2.2.2) fun r16 => (Option.bind (Nr p1 p2 r1.1 y2.2.1 y2.2.2) fun r17 => (Jt (y2.1,r16.1,r17.1,r16.2,r17.2,0,0))))
def Vr (p1 : Aa) (p2 : Int) (r1 : Int × Aq) (r2 : Int × Aq) (r3 : Int × Aq) (y3 : Bool) : Option (Aa × Int × Bool × Aq) := (if y3 then (Option.bind (Hz p1 p2 r2.1 r1.1) fun r23 => (Option.bind (Ua p1 p2 r2.1 r1.1) fun r24 => (Jt (r3.2,r23.1,r24.1,r23.2,r24.2,0,0)))) else (if (r3.1 == 6) then (Option.bind (Gh p1 p2 r2.1 r1.1) fun r26 => (Option.bind (Js p1 p2 r2.1 r1.1) fun r27 => (Jt (r3.2,r26.1,r27.1,r26.2,r27.2,0,0)))) else (Jt (r3.2,({ tree := ({ nodes := [],next := 0 } : Af),tasks := [],next := 0 } : Aa),({ tree := ({ nodes := [],next := 0 } : Af),tasks := [],next := 0 } : Aa),0,0,0,0))))
def Zz (p0 : Aq) (p1 : Aa) (p2 : Int) : Option (Aa × Int × Bool × Aq) := (Option.bind (Ho p0 p1.tree) fun r1 => (Option.bind (Is r1.2 p1) fun r2 => (Option.bind (Ay r2.2 7) fun r3 => (if (r3.1 == 0) then (Option.bind (Nh r3.2) fun r5 => (Option.bind (Hl p1 p2 r1.1 r5.1) fun r6 => (Option.bind (Qf p1 p2 r1.1 r5.1) fun r7 => (Jt (r5.2,r6.1,r7.1,r6.2.2,r7.2.2,r6.2.1,r7.2.1))))) else (if (r3.1 == 1) then (Option.bind (Jm p1 p2 r1.1) fun r9 => (Option.bind (Qa p1 p2 r1.1) fun r10 => (Jt (r3.2,r9.1,r10.1,r9.2,r10.2,0,0)))) else (if (r3.1 == 2) then (Option.bind (Ec r3.2) fun r12 => (Option.bind (Fe r12.2 3) fun r13 => (if r13.1 then (Option.bind (Ec r13.2) fun r15 => ((Vi p1 p2 r1) (r15.2,0,r15.1))) else ((Vi p1 p2 r1) (r13.2,r12.1,0))))) else (if (r3.1 == 3) then (Option.bind (Il p1 p2 r1.1) fun r19 => (Option.bind (Nx p1 p2 r1.1) fun r20 => (Jt (r3.2,r19.1,r20.1,r19.2,r20.2,0,0)))) else (if (r3.1 == 4) then ((Vr p1 p2 r1 r2 r3) (r3.1 == 4)) else ((Vr p1 p2 r1 r2 r3) (r3.1 == 5))))))))))
def Oe (n1 : (Aa × Aq) → Option Bool) (y5 : Aa × Aq) : Option Bool := (n1 (y5.1,y5.2))
def Tk (p1 : Int) (k1 : Int) (s1 : Aa × Aq) (n1 : (Aa × Aq) → Option Bool) : Option Bool := (Option.bind (Ku s1.2) fun r52 => (Option.bind (Ay r52.2 3) fun r53 => (Option.bind (Ay r53.2 3) fun r54 => (Option.bind (Ay r54.2 4) fun r55 => (if 0 ≤ r55.1 ∧ r55.1 < (([p1,r52.1,r53.1,r54.1].length : Nat) : Int) then (if (Int.toNat r55.1) < [p1,r52.1,r53.1,r54.1].length then (Option.bind (Zz r55.2 s1.1 ([p1,r52.1,r53.1,r54.1].getD (Int.toNat r55.1) 0)) fun r58 => (if (!r58.2.2.1) then (some false) else (if (r58.2.1 == 0) then ((Oe n1) (r58.1,r58.2.2.2)) else ((Oe n1) (s1.1,r58.2.2.2))))) else none) else none)))))
def Oc (y6 : Bool) : Option Bool := (some y6)
def Tg (s1 : Aa × Aq) : Option Bool := (Option.bind (Hv s1.2 s1.1) fun r61 => (Option.bind (Ay r61.2 3) fun r62 => (Option.bind (Zz r62.2 r61.1 r62.1) fun r63 => (if r63.2.2.1 then (Option.bind Xp fun r65 => (Oc r65)) else (Oc false)))))
def Mi (p0 : List Int) (p1 : Int) : Option Bool := (Option.bind (Abz p0) fun r1 => (if (!r1) then (Option.bind Xp fun r3 => (some r3)) else (Option.bind (AfJ p0) fun r4 => (Option.bind (Kh r4 6 7) fun r5 => (forO (Tk p1) Tg (Int.toNat (6 - 0)) 0 (r5.1,r5.2))))))
end Go.Dm

/- Plain theory, part 31: threaded's functions. -/
namespace Go.Dm
theorem AlO {t : Af} (w : WfT t) (id : Int) : AaH t id = some (At t id,Bd t id) := by
 unfold AaH Rj
 rw [Yr w]
 simp only [Option.bind_some,Bool.not_true,Bool.false_eq_true,if_false]
 rw [Abx w]
 rfl
theorem Aim {t : Af} (w : WfT t) (id : Int) : So t id = some (Dn t id) := by
 have l2 := w.len2
 unfold So Dn
 rw [AlO w,Option.bind_some]
 cases hg : Bd t id with
 | false => rfl
 | true =>
  simp only [Bool.not_true,Bool.false_eq_true,if_false]
  show (if Dj t id = true then _ else _) = _
  cases hk : Dj t id with
  | true => rfl
  | false =>
   simp only [Bool.false_eq_true,if_false]
   rw [Pl w,Option.bind_some]
   cases hi : Tf t id with
   | true => rfl
   | false =>
    simp only [Bool.false_eq_true,if_false]
    rw [if_pos (by omega),Gj (p := fun x : Ah => (x.parent == id) && (x.kind == 1)) (f := fun _ => (1 : Int)) (z := 0) (fun k x n => rfl) rfl]
    congr 1
    cases hf : t.nodes.find? (fun x : Ah => (x.parent == id) && (x.kind == 1)) with
    | none =>
     rw [List.find?_eq_none] at hf
     have : (Gk t id).any (Dj t) = false := by
      rw [List.any_eq_false]
      intro c hc hth
      obtain ⟨x,hx,hp,rfl⟩ := kids_iff.mp hc
      unfold Dj at hth
      rw [Uq w hx] at hth
      exact hf x hx (by simp [hp]; simpa using hth)
     rw [this]
     rfl
    | some x =>
     have h1 := List.find?_some hf
     have hx := List.mem_of_find?_eq_some hf
     simp only [Bool.and_eq_true,beq_iff_eq] at h1
     have : (Gk t id).any (Dj t) = true := by
      rw [List.any_eq_true]
      refine ⟨x.id,kids_iff.mpr ⟨x,hx,h1.1,rfl⟩,?_⟩
      unfold Dj
      rw [Uq w hx]
      simpa using h1.2
     rw [this]
     rfl
theorem for_map {α R : Type} {f : α → α} {d : α} {L : List α} {body : Int → List α → (List α → Option R) → Option R} {done : List α → Option R}
  (hb : ∀ (M : List α) (m : Nat) n,M.length = L.length → m < M.length → body (m : Int) M n = n (M.set m (f (M.getD m d)))) : forO body done L.length 0 L = done (L.map f) := by
 have key : ∀ (B A : List α),A.length + B.length = L.length → forO body done B.length (A.length : Int) (A.map f ++ B) = done (A.map f ++ B.map f) := by
  intro B
  induction B with
  | nil => intro A _; rfl
  | cons x B ih =>
   intro A hl
   simp only [List.length_cons] at hl ⊢
   rw [forO,hb _ _ _ (by simp; omega) (by simp)]
   have e1 : (A.map f ++ x :: B).getD A.length d = x := by
    have := Aca (pre := A.map f) (post := B) (x := x) (d := d)
    rw [List.length_map] at this
    exact this
   have e2 : (A.map f ++ x :: B).set A.length (f x) = (A ++ [x]).map f ++ B := by
    rw [List.set_append]
    simp
   rw [e1,e2]
   have := ih (A ++ [x]) (by simp; omega)
   rw [show ((A.length : Int) + 1) = (((A ++ [x]).length : Nat) : Int) by simp,this]
   simp
 have := key L [] (by simp)
 simpa using this
theorem Ahd {h : Aa} (f : Bh h) (k g : Int) : Pj h k g = some (Zd h k g) := by
 have w := f.snd.wf
 have l1 := w.len
 have l2 := w.tree.len2
 unfold Pj Zd Bj
 rw [Ek f,Option.bind_some,if_neg (by simp),findC w,Option.bind_some,Abx w.tree,Option.bind_some]
 have hc : ((!(Bm h.tasks k).isSome || ((Bm h.tasks k).getD zK).process != k) || !Bd h.tree g) = !((Bm h.tasks k).isSome && (((Bm h.tasks k).getD zK).process == k) && Bd h.tree g) := by
  cases (Bm h.tasks k).isSome <;> cases Bd h.tree g <;> simp [bne]
 simp only
 rw [hc]
 cases hx : (!((Bm h.tasks k).isSome && (((Bm h.tasks k).getD zK).process == k) && Bd h.tree g)) with
 | true => rfl
 | false =>
  simp only [Bool.false_eq_true,if_false]
  have hg : Bd h.tree g = true := by
   simp only [Bool.not_eq_false',Bool.and_eq_true] at hx
   exact hx.2
  have ht : (Dn h.tree g == 2) = ((At h.tree g).kind == 1) := by
   unfold Dn
   rw [hg]
   simp only [Bool.not_true,Bool.false_eq_true,if_false]
   show _ = Dj h.tree g
   cases Dj h.tree g
   ·simp only [Bool.false_eq_true,if_false]
    cases Tf h.tree g <;> cases (Gk h.tree g).any (Dj h.tree) <;> rfl
   ·rfl
  rw [ht]
  cases hk : ((At h.tree g).kind == 1) with
  | true => rfl
  | false =>
   simp only [Bool.false_eq_true,if_false]
   rw [Abg w,Option.bind_some]
   cases ha : (Lg h.tree g != 0) with
   | true => rfl
   | false =>
    simp only [Bool.false_eq_true,if_false]
    rw [Nv h (by omega) (by omega),Option.bind_some,if_pos (by omega)]
    have hn : Int.toNat (((h.tasks.length : Nat) : Int) - 0) = h.tasks.length := by omega
    rw [hn,for_map (f := Sm k g) (d := default) (L := h.tasks) fun M m n hM hm => by
     unfold Vw Mj
     have em : Int.toNat (m : Int) = m := by omega
     rw [em,if_pos (by omega),if_pos (by omega)]
     unfold Sm
     cases hp : ((M.getD m default).process == k)
     ·simp only [Bool.false_eq_true,if_false]
      rw [AlD hm]
     ·simp only [if_true]
      rw [if_pos (by omega),if_pos (by omega)]]
    rfl
theorem put_at {L : List An} (hs : L.Pairwise (fun a b => a.id < b.id)) {i : Nat} (hi : i < L.length) {k g : Int} (e : (L.getD i default).id = k) :
  L.set i { id := (L.getD i default).id,process := (L.getD i default).process,group := g,user := (L.getD i default).user } = L.map (Qd k g) := by
 apply List.ext_getElem
 ·simp
 ·intro j h1 h2
  rw [List.getElem_set,List.getElem_map]
  have hj : j < L.length := by simpa using h1
  have eg : L.getD i default = L[i] := Qp hi
  rw [eg] at e
  simp only [eg]
  by_cases ej : i = j
  ·subst ej
   rw [if_pos rfl]
   unfold Qd
   rw [if_pos (by simpa using e)]
  ·rw [if_neg ej]
   unfold Qd
   rw [if_neg]
   intro he
   have he' : L[j].id = k := by simpa using he
   have := AdD hs (List.getElem_mem hi) (List.getElem_mem hj) (by omega)
   have hp := List.pairwise_iff_getElem.mp hs
   rcases Nat.lt_or_gt_of_ne ej with h | h
   ·have := hp i j hi hj h
    omega
   ·have := hp j i hj hi h
    omega
theorem AcJ {h : Aa} (f : Bh h) (k g : Int) : Iq h k g = some (Vk h k g) := by
 have w := f.snd.wf
 have l1 := w.len
 have l2 := w.tree.len2
 unfold Iq Vk Bj
 rw [Ek f,Option.bind_some,if_neg (by simp)]
 rcases Mw (fun x : An => x.id == k) h.tasks default with ⟨i,h1,h2,h3⟩ | ⟨h1,h2⟩
 ·have hk : Bm h.tasks k = some (h.tasks.getD i default) := h3
  have hid := (Ox hk).2
  have hAt : Vn h k = some (i : Int) := by
   rw [Abq h k (by omega),h2]
   rfl
  have hi0 : decide ((i : Int) < 0) = false := by simp
  rw [hAt,Option.bind_some,hk,hi0]
  simp only [Option.isSome_some,Bool.true_and,Bool.false_eq_true,if_false]
  obtain ⟨q,eq,hq,_⟩ := Me h.tree g (by omega)
  rw [eq,Option.bind_some,hq]
  unfold Hj Bj
  cases hg : Bd h.tree g with
  | false => rfl
  | true =>
   simp only [Bool.not_true,Bool.false_eq_true,if_false]
   rw [Abg w,Option.bind_some]
   cases ha : (Lg h.tree g != 0) with
   | true => rfl
   | false =>
    simp only [Bool.false_eq_true,if_false]
    have em : Int.toNat (i : Int) = i := by omega
    rw [if_pos (by omega),em,Qj w.tree,Option.bind_some,Qj w.tree,Option.bind_some]
    have hgk : AcE h k = (h.tasks.getD i default).group := by
     unfold AcE
     rw [hk]
     rfl
    rw [hgk]
    have hsw : (Gw h.tree (h.tasks.getD i default).group != Gw h.tree g) = (Gw h.tree g != Gw h.tree (h.tasks.getD i default).group) := by
     rw [Bool.eq_iff_iff]
     simp only [bne_iff_ne]
     exact ⟨fun a b => a b.symm,fun a b => a b.symm⟩
    rw [hsw]
    cases hd : (Gw h.tree g != Gw h.tree (h.tasks.getD i default).group) with
    | true => rfl
    | false =>
     simp only [Bool.false_eq_true,if_false]
     rw [Nv h (by omega) (by omega),Option.bind_some,if_pos (by omega),if_pos h1,put_at w.sorted h1 hid]
 ·have hk : Bm h.tasks k = none := h2
  rw [Abq h k (by omega),h1,hk]
  rfl
end Go.Dm

/- Plain theory, part 32: new groups. -/
namespace Go.Dm
theorem Aky {t : Af} (w : WfT t) : Pz t = some t := by
 have l2 := w.len2
 unfold Pz Ed
 rw [if_pos (by omega)]
 rfl
theorem AmW {t : Af} (w : WfT t) (p : Int) {s : ByteArray} (hs : s.size ≤ 1073741824) : Acf t p s = some (Yf t p s) := by
 have l2 := w.len2
 have hnx := w.nextLe
 have hnx1 : 1 ≤ t.next := by
  obtain ⟨x,r,e,hx⟩ := w.root
  have := w.next x (by rw [e]; simp)
  have := hx.id
  omega
 unfold Acf Yf
 rw [Yr w,Option.bind_some,if_neg (by simp),Afo s (by omega),Option.bind_some]
 unfold Yy Ow
 cases hv : Dy s with
 | false => rfl
 | true =>
  simp only [Bool.not_true,Bool.false_eq_true,if_false]
  obtain ⟨q,eq,hq,_⟩ := Me t p (by omega)
  rw [eq,Option.bind_some,hq]
  cases hp : Bd t p with
  | false => rfl
  | true =>
   simp only [Bool.not_true,Bool.false_eq_true,if_false]
   have hch : Xz t p s = some ((t.nodes.find? (fun x => x.parent == p && Cz x.name s)).elim 0 (·.id)) := by
    unfold Xz
    rw [if_pos (by omega)]
    exact Gj (fun k x n => rfl) rfl
   rw [hch,Option.bind_some]
   have hany : (((t.nodes.find? (fun x => x.parent == p && Cz x.name s)).elim 0 (·.id) : Int) != 0) = t.nodes.any (fun x => x.parent == p && Cz x.name s) := by
    cases hf : t.nodes.find? (fun x => x.parent == p && Cz x.name s) with
    | none =>
     rw [List.find?_eq_none] at hf
     symm
     rw [List.any_eq_false.mpr hf]
     rfl
    | some x =>
     have h1 := List.find?_some hf
     have hx := List.mem_of_find?_eq_some hf
     have := w.id_pos hx
     rw [List.any_eq_true.mpr ⟨x,hx,h1⟩]
     simp
     omega
   rw [hany]
   cases ha : t.nodes.any (fun x => x.parent == p && Cz x.name s) with
   | true => rfl
   | false =>
    simp only [Bool.false_eq_true,if_false]
    have hul : (upT t p).length ≤ t.nodes.length := by
     have := Rw t.nodes.reverse p
     simpa [upT] using this
    have hdp : Xv t p = some (((upT t p).length : Int) - 1) := by
     unfold Xv Va Rj
     rw [Yr w]
     simp only [Option.bind_some,Bool.not_true,Bool.false_eq_true,if_false]
     rw [Gv w]
     simp only [Option.bind_some]
     rw [Bz (by omega) (by omega)]
    rw [hdp,Option.bind_some]
    unfold Vm Ow
    by_cases h9 : 9 ≤ (upT t p).length
    ·have e1 : decide (((upT t p).length : Int) - 1 ≥ 8) = true := decide_eq_true (by omega)
     have e2 : decide (9 ≤ (upT t p).length) = true := decide_eq_true h9
     rw [e1,e2]
     rfl
    ·have e1 : decide (((upT t p).length : Int) - 1 ≥ 8) = false := decide_eq_false (by omega)
     have e2 : decide (9 ≤ (upT t p).length) = false := decide_eq_false h9
     rw [e1,e2]
     simp only [Bool.false_eq_true,if_false,Bool.false_or]
     by_cases h64 : 64 ≤ t.nodes.length
     ·have e3 : decide (((t.nodes.length : Nat) : Int) ≥ 64) = true := decide_eq_true (by omega)
      have e4 : decide (64 ≤ t.nodes.length) = true := decide_eq_true h64
      rw [e3,e4]
      rfl
     ·have e3 : decide (((t.nodes.length : Nat) : Int) ≥ 64) = false := decide_eq_false (by omega)
      have e4 : decide (64 ≤ t.nodes.length) = false := decide_eq_false h64
      rw [e3,e4]
      simp only [Bool.false_eq_true,if_false,Bool.false_or]
      by_cases hn : 2147483647 < t.next
      ·have e5 : decide (t.next > 2147483647) = true := decide_eq_true hn
       rw [e5]
       rfl
      ·have e5 : decide (t.next > 2147483647) = false := decide_eq_false hn
       rw [e5]
       simp only [Bool.false_eq_true,if_false]
       rw [Aky w,Option.bind_some,if_pos (by omega),Bz (by omega) (by omega)]
def Qx (h : Aa) (p : Int) (s : ByteArray) : Aa × Int × Int :=
 if (Yf h.tree p s).2.2 != 0 then (zH,0,(Yf h.tree p s).2.2) else ({ tree := (Yf h.tree p s).1,tasks := h.tasks,next := h.next },(Yf h.tree p s).2.1,0)
theorem Ahl {h : Aa} (f : Bh h) (p : Int) {s : ByteArray} (hs : s.size ≤ 1073741824) : Pb h p s = some (Qx h p s) := by
 have w := f.snd.wf
 have l1 := w.len
 have l2 := w.tree.len2
 unfold Pb Qx
 rw [Ek f,Option.bind_some,if_neg (by simp),AmW w.tree p hs,Option.bind_some]
 cases e : ((Yf h.tree p s).2.2 != 0)
 ·simp only [Bool.false_eq_true,if_false]
  rw [Nv h (by omega) (by omega)]
  rfl
 ·rfl
theorem AkM {h : Aa} (f : Bh h) (p : Int) (s : ByteArray) : Sy h p s = some (Qx h p s) := by
 have w := f.snd.wf
 have l1 := w.len
 have l2 := w.tree.len2
 unfold Sy Qx
 rw [La f,Option.bind_some,if_neg (by simp),Aio w.tree,Option.bind_some]
 cases e : ((Yf h.tree p s).2.2 != 0)
 ·simp only [Bool.false_eq_true,if_false]
  rw [Ju h (by omega) (by omega)]
  rfl
 ·rfl
theorem AgC {h : Aa} (f : Bh h) {p : Int} {s : ByteArray} (e : (Qx h p s).2.2 = 0) : Bh (Qx h p s).1 := by
 unfold Qx at e ⊢
 split at e
 ·rename_i c
  simp at e c
  exact absurd e c
 ·rename_i c
  rw [if_neg c]
  exact Amm f (AmZ f.snd.wf.tree rfl (by simpa using c)).1
end Go.Dm

/- Plain theory, part 33: controllers are written, groups are made threaded. -/
namespace Go.Dm
theorem set_at {L : List Ah} (hs : L.Pairwise (fun a b => a.id < b.id)) {i : Nat} (hi : i < L.length) {y : Ah} (e : (L.getD i default).id = y.id) : L.set i y = L.map (Th y) := by
 apply List.ext_getElem
 ·simp
 ·intro j h1 h2
  rw [List.getElem_set,List.getElem_map]
  have hj : j < L.length := by simpa using h1
  have eg : L.getD i default = L[i] := Qp hi
  rw [eg] at e
  by_cases ej : i = j
  ·subst ej
   rw [if_pos rfl]
   unfold Th
   rw [if_pos (by simpa using e)]
  ·rw [if_neg ej]
   unfold Th
   rw [if_neg]
   intro he
   have he' : L[j].id = y.id := by simpa using he
   have hp := List.pairwise_iff_getElem.mp hs
   rcases Nat.lt_or_gt_of_ne ej with h | h
   ·have := hp i j hi hj h
    omega
   ·have := hp j i hj hi h
    omega
theorem all2 {p : Int → Int → Bool} (h : (List.range 32).all (fun a => (List.range 32).all (fun b => p (a : Int) (b : Int))) = true) {a b : Int} (a0 : 0 ≤ a) (a1 : a ≤ 31) (b0 : 0 ≤ b) (b1 : b ≤ 31) : p a b = true := by
 have h1 := List.all_eq_true.mp h a.toNat (by rw [List.mem_range]; omega)
 have h2 := List.all_eq_true.mp h1 b.toNat (by rw [List.mem_range]; omega)
 rw [show ((a.toNat : Nat) : Int) = a by omega,show ((b.toNat : Nat) : Int) = b by omega] at h2
 exact h2
def Aey (a b : Int) : Bool := (kand .i64 (Az .i64 a b) 6 == Az .i64 (kand .i64 a 6) b) && decide (0 ≤ Az .i64 a b) && decide (Az .i64 a b ≤ 31) && decide (0 ≤ kor .i64 a b) && decide (kor .i64 a b ≤ 31)
theorem Aib : (List.range 32).all (fun a => (List.range 32).all (fun b => Aey (a : Int) (b : Int))) = true := by decide +kernel
theorem bits_set : (List.range 34).all (fun a => (decide ((a : Int) - 1 ≥ 0) && (Az .i64 ((a : Int) - 1) 31 == 0)) == (decide ((a : Int) - 1 ≥ 0) && decide ((a : Int) - 1 ≤ 31))) = true := by decide +kernel
theorem Afj {a b : Int} (a0 : 0 ≤ a) (a1 : a ≤ 31) (b0 : 0 ≤ b) (b1 : b ≤ 31) : 0 ≤ Az .i64 a b ∧ Az .i64 a b ≤ 31 := by
 have := all2 (p := Aey) Aib a0 a1 b0 b1
 simp only [Aey,Bool.and_eq_true,decide_eq_true_eq] at this
 exact ⟨this.1.1.1.2,this.1.1.2⟩
theorem Akr {a b : Int} (a0 : 0 ≤ a) (a1 : a ≤ 31) (b0 : 0 ≤ b) (b1 : b ≤ 31) : 0 ≤ kor .i64 a b ∧ kor .i64 a b ≤ 31 := by
 have := all2 (p := Aey) Aib a0 a1 b0 b1
 simp only [Aey,Bool.and_eq_true,decide_eq_true_eq] at this
 exact ⟨this.1.2,this.2⟩
theorem and_swap {a b : Int} (a0 : 0 ≤ a) (a1 : a ≤ 31) (b0 : 0 ≤ b) (b1 : b ≤ 31) : Az .i64 (kand .i64 a 6) b = kand .i64 (Az .i64 a b) 6 := by
 have := all2 (p := Aey) Aib a0 a1 b0 b1
 simp only [Aey,Bool.and_eq_true,beq_iff_eq] at this
 exact this.1.1.1.1.symm
def Zf (n : Int) : Bool := decide (n ≥ 0) && decide (n ≤ 31)
theorem Afh {a : Int} (h0 : -1 ≤ a) (h1 : a ≤ 32) : Sx a = some (Zf a) := by
 have := List.all_eq_true.mp bits_set (a + 1).toNat (by rw [List.mem_range]; omega)
 rw [show (((a + 1).toNat : Nat) : Int) - 1 = a by omega] at this
 unfold Sx Zf
 rw [eq_of_beq this]
def Pv (x : Ah) (a d : Int) : Ah := { id := x.id,parent := x.parent,name := x.name,control := kor .i64 (Az .i64 x.control d) a,kind := x.kind,owner := x.owner }
def It (h : Aa) (id a d : Int) : Aa × Int :=
 if !Zf a || !Zf d || (kand .i64 a d != 0) then (zH,1) else if !Bd h.tree id then (zH,4)
 else if Az .i64 a (Ns h.tree (At h.tree id)) != 0 then (zH,9)
 else if h.tree.nodes.any (fun x => (x.parent == id) && (kand .i64 x.control d != 0)) then (zH,9)
 else if (kand .i64 (Az .i64 (Pv (At h.tree id) a d).control (At h.tree id).control) 6 != 0) && ((id != 1) && decide ((((Hk h id).length : Nat) : Int) > 0)) then (zH,6)
 else (Jk h (Pv (At h.tree id) a d),0)
theorem AeQ {α β : Type} {p : α → Bool} {a b : β} {xs : List α} : (xs.find? p).elim a (fun _ => b) = if xs.any p then b else a := by
 cases h : xs.find? p with
 | none =>
  rw [List.find?_eq_none] at h
  rw [if_neg]
  ·rfl
  ·simpa using h
 | some x =>
  rw [if_pos (List.any_eq_true.mpr ⟨x,List.mem_of_find?_eq_some h,List.find?_some h⟩)]
  rfl
theorem at_node {t : Af} (w : WfT t) {id : Int} (hg : Bd t id = true) : ∃ i : Nat,i < t.nodes.length ∧ En t id = some (i : Int) ∧ t.nodes.getD i default = At t id := by
 have l2 := w.len2
 rcases Mw (fun x : Ah => x.id == id) t.nodes default with ⟨i,h1,h2,h3⟩ | ⟨h1,h2⟩
 ·refine ⟨i,h1,?_,?_⟩
  ·rw [Ud t id (by omega),h2]
   rfl
  ·unfold At Hr
   rw [h3]
   rfl
 ·exfalso
  unfold Bd Hr at hg
  rw [h2] at hg
  simp at hg
theorem at_none {t : Af} (hl : t.nodes.length ≤ 1000000) {id : Int} (hg : Bd t id = false) : En t id = some (-1) := by
 rcases Mw (fun x : Ah => x.id == id) t.nodes default with ⟨i,h1,h2,h3⟩ | ⟨h1,h2⟩
 ·exfalso
  unfold Bd Hr at hg
  rw [h3] at hg
  simp at hg
 ·rw [Ud t id hl,h1]
  rfl
theorem AiG {h : Aa} (s : Wv h) (id : Int) {a d : Int} (a0 : -1 ≤ a) (a1 : a ≤ 32) (d0 : -1 ≤ d) (d1 : d ≤ 32) : Sg h id a d = some (It h id a d) := by
 have w := s.wf
 have l1 := w.len
 have l2 := w.tree.len2
 have hs : Mc h = some true := by
  obtain ⟨b,e,hb⟩ := Abd w.raw
  rw [e,hb.mpr s]
 unfold Sg It
 rw [hs,Option.bind_some,if_neg (by simp),Afh a0 a1,Option.bind_some,Afh d0 d1,Option.bind_some]
 cases ha : Zf a with
 | false => rfl
 | true =>
 cases hd : Zf d with
 | false => rfl
 | true =>
 simp only [Bool.not_true,Bool.false_eq_true,if_false,Bool.false_or]
 unfold Jj
 cases hk : (kand .i64 a d != 0) with
 | true => rfl
 | false =>
 simp only [Bool.false_eq_true,if_false]
 cases hg : Bd h.tree id with
 | false =>
  rw [at_none (by omega) hg,Option.bind_some]
  rfl
 | true =>
 obtain ⟨i,hi,eAt,eN⟩ := at_node w.tree hg
 have em : Int.toNat (i : Int) = i := by omega
 rw [eAt,Option.bind_some,if_neg (by simp),if_pos (by omega),em,eN,Aec w.tree,Option.bind_some]
 simp only [Bool.not_true,Bool.false_eq_true,if_false]
 cases hav : (Az .i64 a (Ns h.tree (At h.tree id)) != 0) with
 | true => rfl
 | false =>
 simp only [Bool.false_eq_true,if_false]
 rw [if_pos (by omega)]
 have hJ4 : ∀ b,Jx h a d (i : Int) b = some (if b then (zH,6) else (Jk h (Pv (At h.tree id) a d),0)) := by
  intro b
  unfold Jx
  cases b
  ·rw [if_neg (by simp),Nv h (by omega) (by omega),Option.bind_some,if_pos (by omega),em,if_pos hi,eN]
   simp only [Bool.false_eq_true,if_false]
   unfold Jk setT
   rw [← set_at w.tree.sorted hi (by rw [eN]; rfl)]
   rfl
  ·rfl
 have hD : Tv h id a d (i : Int) () = some (if (kand .i64 (Az .i64 (Pv (At h.tree id) a d).control (At h.tree id).control) 6 != 0) && ((id != 1) && decide ((((Hk h id).length : Nat) : Int) > 0)) then (zH,6) else (Jk h (Pv (At h.tree id) a d),0)) := by
  unfold Tv
  rw [em,eN,hJ4]
  simp only [hJ4]
  rw [show kor .i64 (Az .i64 (At h.tree id).control d) a = (Pv (At h.tree id) a d).control from rfl]
  cases (kand .i64 (Az .i64 (Pv (At h.tree id) a d).control (At h.tree id).control) 6 != 0)
  ·rfl
  ·cases (id != 1)
   ·rfl
   ·simp only [if_true,Bool.true_and]
    rw [Ut w.sorted (by omega),Option.bind_some]
 rw [Gj (p := fun x => (x.parent == id) && (kand .i64 x.control d != 0)) (f := fun _ => (zH,9)) (fun k x n => rfl) hD,AeQ]
theorem Alp {h : Aa} (s : Wv h) (id a d : Int) : Rq h id a d = some (It h id a d) := by
 have w := s.wf
 have l1 := w.len
 have l2 := w.tree.len2
 have hs : Mq h = some true := by
  obtain ⟨b,e,hb⟩ := AdQ h
  rw [e,hb.mpr s]
 unfold Rq It
 rw [hs,Option.bind_some,if_neg (by simp)]
 have hset : ∀ n,Zk n = some (Zf n) := fun n => rfl
 rw [hset,Option.bind_some,hset,Option.bind_some]
 cases ha : Zf a with
 | false => rfl
 | true =>
 cases hd : Zf d with
 | false => rfl
 | true =>
 simp only [Bool.not_true,Bool.false_eq_true,if_false,Bool.false_or]
 unfold Ht
 cases hk : (kand .i64 a d != 0) with
 | true => rfl
 | false =>
 simp only [Bool.false_eq_true,if_false]
 rw [Qi w.tree,Option.bind_some]
 cases hg : Bd h.tree id with
 | false => rfl
 | true =>
 simp only [Bool.not_true,Bool.false_eq_true,if_false]
 obtain ⟨hid,hmem⟩ := Md hg
 have hav := AbS w.tree hmem
 rw [hid] at hav
 rw [hav,Option.bind_some]
 cases hav : (Az .i64 a (Ns h.tree (At h.tree id)) != 0) with
 | true => rfl
 | false =>
 simp only [Bool.false_eq_true,if_false]
 have hkl := Acb h.tree id
 rw [Tq w.tree,Option.bind_some,hg,if_pos rfl,if_pos (by omega)]
 have hJ4 : ∀ b,Ji h a d (At h.tree id,true) b = some (if b then (zH,6) else (Jk h (Pv (At h.tree id) a d),0)) := by
  intro b
  unfold Ji
  cases b
  ·rw [if_neg (by simp),Ju h (by omega) (by omega),Option.bind_some,Wt _ _ (by omega)]
   rfl
  ·rfl
 have hb := (w.tree.p.val _ hmem)
 have hD : Uf h id a d (At h.tree id,true) () = some (if (kand .i64 (Az .i64 (Pv (At h.tree id) a d).control (At h.tree id).control) 6 != 0) && ((id != 1) && decide ((((Hk h id).length : Nat) : Int) > 0)) then (zH,6) else (Jk h (Pv (At h.tree id) a d),0)) := by
  unfold Uf
  simp only [hJ4]
  unfold Zf at ha hd
  simp only [Bool.and_eq_true,decide_eq_true_eq] at ha hd
  have hb1 := Afj hb.c1 hb.c2 hd.1 hd.2
  have hb2 := Akr hb1.1 hb1.2 ha.1 ha.2
  rw [and_swap hb2.1 hb2.2 hb.c1 hb.c2]
  rw [show kor .i64 (Az .i64 (At h.tree id).control d) a = (Pv (At h.tree id) a d).control from rfl]
  cases (kand .i64 (Az .i64 (Pv (At h.tree id) a d).control (At h.tree id).control) 6 != 0)
  ·rfl
  ·cases (id != 1)
   ·rfl
   ·simp only [if_true,Bool.true_and]
    rw [Rm w,Option.bind_some]
 rw [Gj (p := fun c => kand .i64 (At h.tree c).control d != 0) (f := fun _ => (zH,9)) (fun k x n => by unfold Yb; rw [Qi w.tree,Option.bind_some]; rfl) hD,AeQ]
 have hany : (Gk h.tree id).any (fun c => kand .i64 (At h.tree c).control d != 0) = h.tree.nodes.any (fun x => (x.parent == id) && (kand .i64 x.control d != 0)) := by
  unfold Gk
  rw [List.any_map,List.any_filter,Bool.eq_iff_iff,List.any_eq_true,List.any_eq_true]
  constructor
  ·rintro ⟨x,hx,e⟩
   refine ⟨x,hx,?_⟩
   simpa [Uq w.tree hx] using e
  ·rintro ⟨x,hx,e⟩
   refine ⟨x,hx,?_⟩
   simpa [Uq w.tree hx] using e
 rw [hany]
theorem Akq {h : Aa} (w : WfH h) {x : Ah} (hx : x ∈ h.tree.nodes) {y : Ah} (e1 : y.id = x.id) (e2 : y.parent = x.parent) (e3 : y.name = x.name) (v : Tr y) (k : x.id = 1 → y.kind = 0) : WfH (Jk h y) := by
 refine ⟨setT_wf w.tree hx e1 e2 e3 v k,w.len,w.n1,w.n2,w.sorted,w.lt,?_⟩
 intro t ht
 have := w.val t ht
 refine ⟨this.pos,?_,this.u1,this.u2,this.ldr⟩
 have hh := this.grp
 rw [hasN_iff] at hh ⊢
 obtain ⟨z,hz,ez⟩ := hh
 refine ⟨Th y z,List.mem_map_of_mem hz,?_⟩
 unfold Th
 split
 ·rename_i c
  have : z.id = y.id := by simpa using c
  omega
 ·exact ez
theorem Ako {h : Aa} (s : Wv h) {id a d : Int} (e : (It h id a d).2 = 0) : WfH (It h id a d).1 ∧ Bd h.tree id = true ∧ It h id a d = (Jk h (Pv (At h.tree id) a d),0) := by
 unfold It at e ⊢
 split at e
 ·simp at e
 rename_i c1
 rw [if_neg c1]
 split at e
 ·simp at e
 rename_i c2
 rw [if_neg c2]
 split at e
 ·simp at e
 rename_i c3
 rw [if_neg c3]
 split at e
 ·simp at e
 rename_i c4
 rw [if_neg c4]
 split at e
 ·simp at e
 rename_i c5
 rw [if_neg c5]
 have hg : Bd h.tree id = true := by simpa using c2
 refine ⟨?_,hg,rfl⟩
 obtain ⟨hid,hmem⟩ := Md hg
 have hb := (s.wf.tree.p.val _ hmem)
 simp only [Zf,Bool.or_eq_true,Bool.not_eq_true',not_or,Bool.not_eq_false,Bool.and_eq_true,decide_eq_true_eq] at c1
 have ha := c1.1.1
 have hd := c1.1.2
 have hb1 := Afj hb.c1 hb.c2 hd.1 hd.2
 have hb2 := Akr hb1.1 hb1.2 ha.1 ha.2
 exact Akq s.wf hmem rfl rfl rfl ⟨hb.kind,hb2.1,hb2.2,hb.o1,hb.o2⟩ (fun e1 => (Agw s.wf.tree hmem e1).2)
noncomputable def Nk (h : Aa) (id a d : Int) : Aa × Int :=
 open Classical in
 if (It h id a d).2 != 0 then (zH,(It h id a d).2) else if Bh (It h id a d).1 then ((It h id a d).1,0) else (zH,10)
theorem Ahk {h : Aa} (f : Bh h) (id : Int) {a d : Int} (a0 : -1 ≤ a) (a1 : a ≤ 32) (d0 : -1 ≤ d) (d1 : d ≤ 32) : Pd h id a d = some (Nk h id a d) := by
 unfold Pd Nk Bj
 rw [Ek f,Option.bind_some,if_neg (by simp),AiG f.snd id a0 a1 d0 d1,Option.bind_some]
 cases e : ((It h id a d).2 != 0) with
 | true => rfl
 | false =>
  simp only [Bool.false_eq_true,if_false]
  have w := (Ako f.snd (by simpa using e)).1
  by_cases g : Bh (It h id a d).1
  ·rw [Ek g,Option.bind_some,if_pos g]
   rfl
  ·rw [Lq w.raw g,Option.bind_some,if_neg g]
   rfl
theorem AkU {h : Aa} (f : Bh h) (id a d : Int) : Mu h id a d = some (Nk h id a d) := by
 unfold Mu Nk
 rw [La f,Option.bind_some,if_neg (by simp),Alp f.snd id,Option.bind_some]
 cases e : ((It h id a d).2 != 0) with
 | true => rfl
 | false =>
  simp only [Bool.false_eq_true,if_false]
  by_cases g : Bh (It h id a d).1
  ·rw [La g,Option.bind_some,if_pos g]
   rfl
  ·rw [AdC g,Option.bind_some,if_neg g]
   rfl
theorem AiQ {h : Aa} (f : Bh h) {id a d : Int} (e : (Nk h id a d).2 = 0) : Bh (Nk h id a d).1 ∧ Bd h.tree id = true ∧ Nk h id a d = (Jk h (Pv (At h.tree id) a d),0) ∧ (It h id a d).2 = 0 := by
 unfold Nk at e ⊢
 cases c : ((It h id a d).2 != 0) with
 | true =>
  rw [c,if_pos rfl] at e
  simp at c
  exact absurd e c
 | false =>
  rw [c] at e
  simp only [Bool.false_eq_true,if_false] at e ⊢
  have c0 : (It h id a d).2 = 0 := by simpa using c
  have hw := Ako f.snd c0
  by_cases g : Bh (It h id a d).1
  ·rw [if_pos g]
   refine ⟨g,hw.2.1,?_,c0⟩
   rw [hw.2.2]
  ·rw [if_neg g] at e
   simp at e
theorem AkJ {h : Aa} (f : Bh h) (id a d : Int) : Nz (Nk h id a d).1 := by
 by_cases e : (Nk h id a d).2 = 0
 ·exact (AiQ f e).1.snd.wf.small
 ·unfold Nk at e ⊢
  split
  ·exact Cb
  ·rename_i c
   rw [if_neg c] at e
   split
   ·rename_i g
    rw [if_pos g] at e
    simp at e
   ·exact Cb
def Kz (x : Ah) : Ah := { id := x.id,parent := x.parent,name := x.name,control := x.control,kind := 1,owner := x.owner }
noncomputable def Ma (h : Aa) (id : Int) : Aa × Int :=
 open Classical in
 if !Bd h.tree id then (zH,4) else if (id == 1) || ((At h.tree id).kind == 1) then (zH,9)
 else if (Dn h.tree (At h.tree id).parent == 3) || (((At h.tree id).parent != 1) && (kand .i64 (At h.tree (At h.tree id).parent).control 6 != 0)) then (zH,10)
 else if kand .i64 (At h.tree id).control 6 != 0 then (zH,9)
 else if decide ((((Hk h id).length : Nat) : Int) > 0) then (zH,6)
 else if Bh (Jk h (Kz (At h.tree id))) then (Jk h (Kz (At h.tree id)),0) else (zH,6)
theorem AfH {h : Aa} (f : Bh h) (id : Int) : Nt h id = some (Ma h id) := by
 have w := f.snd.wf
 have l1 := w.len
 have l2 := w.tree.len2
 unfold Nt Ma Bj
 rw [Ek f,Option.bind_some,if_neg (by simp)]
 cases hg : Bd h.tree id with
 | false =>
  rw [at_none (by omega) hg,Option.bind_some]
  rfl
 | true =>
 obtain ⟨hid,hmem⟩ := Md hg
 obtain ⟨i,hi,eAt,eN⟩ := at_node w.tree hg
 have em : Int.toNat (i : Int) = i := by omega
 rw [eAt,Option.bind_some,if_neg (by simp),if_pos (by omega),em,eN,Abx w.tree,Option.bind_some]
 simp only [Bool.not_true,Bool.false_eq_true,if_false]
 cases hc : ((id == 1) || ((At h.tree id).kind == 1)) with
 | true => rfl
 | false =>
 simp only [Bool.false_eq_true,if_false]
 have h1 : id ≠ 1 := by
  simp at hc
  exact hc.1
 rw [Aim w.tree,Option.bind_some]
 have hw : WfH (Jk h (Kz (At h.tree id))) := by
  have hb := (w.tree.p.val _ hmem)
  exact Akq w hmem rfl rfl rfl ⟨.inr rfl,hb.c1,hb.c2,hb.o1,hb.o2⟩ (fun e1 => absurd e1 (by omega))
 have hset : h.tree.nodes.set i (Kz (At h.tree id)) = h.tree.nodes.map (Th (Kz (At h.tree id))) := set_at w.tree.sorted hi (by rw [eN]; rfl)
 have hwith : ({ tree := ({ nodes := (h.tree.nodes.set i (Kz (At h.tree id))),next := h.tree.next } : Af),tasks := h.tasks,next := h.next } : Aa) = Jk h (Kz (At h.tree id)) := by
  rw [hset]
  rfl
 have hJ2 : ∀ b,Iw (i : Int) h b = some (if b then (zH,6) else (Jk h (Kz (At h.tree id)),0)) := by
  intro b
  unfold Iw Bj
  rw [em,eN]
  cases b
  ·simp only [Bool.false_eq_true,if_false]
   rw [← hwith]
   rfl
  ·rfl
 have hJ1 : ∀ b,Gr h id (i : Int) b = some (open Classical in if b then (zH,10) else if kand .i64 (At h.tree id).control 6 != 0 then (zH,9) else if decide ((((Hk h id).length : Nat) : Int) > 0) then (zH,6) else if Bh (Jk h (Kz (At h.tree id))) then (Jk h (Kz (At h.tree id)),0) else (zH,6)) := by
  intro b
  unfold Gr Bj
  cases b
  ·rw [em,eN]
   simp only [Bool.false_eq_true,if_false]
   cases (kand .i64 (At h.tree id).control 6 != 0) with
   | true => rfl
   | false =>
    simp only [Bool.false_eq_true,if_false]
    rw [Nv h (by omega) (by omega),Option.bind_some,if_pos (by omega),if_pos hi,Ut w.sorted (by omega),Option.bind_some,hJ2]
    rw [eN,show ({ id := (At h.tree id).id,parent := (At h.tree id).parent,name := (At h.tree id).name,control := (At h.tree id).control,kind := 1,owner := (At h.tree id).owner } : Ah) = Kz (At h.tree id) from rfl,hwith]
    split
    ·rfl
    ·by_cases g : Bh (Jk h (Kz (At h.tree id)))
     ·rw [Ek g,Option.bind_some,if_pos g,hJ2]
      rfl
     ·rw [Lq hw.raw g,Option.bind_some,if_neg g,hJ2]
      rfl
  ·rfl
 simp only [hJ1]
 cases (Dn h.tree (At h.tree id).parent == 3) with
 | true => rfl
 | false =>
  simp only [Bool.false_eq_true,if_false,Bool.false_or]
  cases ((At h.tree id).parent != 1) with
  | true => rfl
  | false => rfl
theorem AjZ {h : Aa} (f : Bh h) (id : Int) : Lo h id = some (Ma h id) := by
 have w := f.snd.wf
 have l1 := w.len
 have l2 := w.tree.len2
 unfold Lo Ma
 rw [La f,Option.bind_some,if_neg (by simp),Qi w.tree,Option.bind_some]
 cases hg : Bd h.tree id with
 | false => rfl
 | true =>
 obtain ⟨hid,hmem⟩ := Md hg
 simp only [Bool.not_true,Bool.false_eq_true,if_false]
 cases hc : ((id == 1) || ((At h.tree id).kind == 1)) with
 | true => rfl
 | false =>
 simp only [Bool.false_eq_true,if_false]
 rw [Qi w.tree,Option.bind_some,par_id w.tree hmem,Qc w.tree,Option.bind_some]
 have hJ2 : ∀ b,Ni h (setT h.tree (Kz (At h.tree id))) b = some (if b then (zH,6) else (Jk h (Kz (At h.tree id)),0)) := by
  intro b
  cases b <;> rfl
 have hJ1 : ∀ b,Hg h id (At h.tree id,true) b = some (open Classical in if b then (zH,10) else if kand .i64 (At h.tree id).control 6 != 0 then (zH,9) else if decide ((((Hk h id).length : Nat) : Int) > 0) then (zH,6) else if Bh (Jk h (Kz (At h.tree id))) then (Jk h (Kz (At h.tree id)),0) else (zH,6)) := by
  intro b
  unfold Hg
  cases b
  ·simp only [Bool.false_eq_true,if_false]
   cases (kand .i64 (At h.tree id).control 6 != 0) with
   | true => rfl
   | false =>
    simp only [Bool.false_eq_true,if_false]
    rw [Ju h (by omega) (by omega),Option.bind_some,Wt _ _ (by omega),Option.bind_some,Rm w,Option.bind_some]
    rw [show ({ id := (At h.tree id).id,parent := (At h.tree id).parent,name := (At h.tree id).name,control := (At h.tree id).control,kind := 1,owner := (At h.tree id).owner } : Ah) = Kz (At h.tree id) from rfl,hJ2]
    rw [show ({ tree := setT h.tree (Kz (At h.tree id)),tasks := h.tasks,next := h.next } : Aa) = Jk h (Kz (At h.tree id)) from rfl]
    split
    ·rfl
    ·by_cases g : Bh (Jk h (Kz (At h.tree id)))
     ·rw [La g,Option.bind_some,if_pos g,hJ2]
      rfl
     ·rw [AdC g,Option.bind_some,if_neg g,hJ2]
      rfl
  ·rfl
 simp only [hJ1]
 cases (Dn h.tree (At h.tree id).parent == 3) with
 | true => rfl
 | false =>
  simp only [Bool.false_eq_true,if_false,Bool.false_or]
  cases ((At h.tree id).parent != 1) with
  | true => rfl
  | false => rfl
theorem AlX {h : Aa} {id : Int} (e : (Ma h id).2 = 0) : Bh (Ma h id).1 ∧ Bd h.tree id = true ∧ Ma h id = (Jk h (Kz (At h.tree id)),0) := by
 unfold Ma at e ⊢
 split at e
 ·simp at e
 rename_i c1
 rw [if_neg c1]
 split at e
 ·simp at e
 rename_i c2
 rw [if_neg c2]
 split at e
 ·simp at e
 rename_i c3
 rw [if_neg c3]
 split at e
 ·simp at e
 rename_i c4
 rw [if_neg c4]
 split at e
 ·simp at e
 rename_i c5
 rw [if_neg c5]
 split at e
 ·rename_i c6
  rw [if_pos c6]
  exact ⟨c6,by simpa using c1,rfl⟩
 ·simp at e
theorem AjH {h : Aa} (id : Int) : Nz (Ma h id).1 := by
 unfold Ma
 split
 ·exact Cb
 split
 ·exact Cb
 split
 ·exact Cb
 split
 ·exact Cb
 split
 ·exact Cb
 split
 ·rename_i g
  exact g.snd.wf.small
 ·exact Cb
end Go.Dm

/- Plain theory, part 34: names of made groups are short. -/
namespace Go.Dm
end Go.Dm

/- Plain theory, part 35: rights of users. -/
namespace Go.Dm
theorem AlW : Xp = some true := by kernel_rfl
def Ea (n : Int) : Bool := decide (n ≥ 0) && decide (n ≤ 1048576)
def Zs (t : Af) (u a : Int) : Bool := (At t a).owner == u
def Jl (t : Af) (u id : Int) : Bool := Ea u && (decide (0 < (upT t id).length) && (u == 0 || ((upT t id).drop 1).any (Zs t u)))
def Ep (t : Af) (u id : Int) : Bool := Jl t u id || (Ea u && (u != 0 && (upT t id).any (Zs t u)))
theorem AbJ {t : Af} (id : Int) : (upT t id).length ≤ t.nodes.length := by
 have := Rw t.nodes.reverse id
 simpa [upT] using this
theorem Ade {t : Af} (w : WfT t) (u : Int) {l : List Int} (hl : l.length ≤ 1000000) : Om t u l = some (l.any (Zs t u)) := by
 have l2 := w.len2
 unfold Om Du Eo
 rw [if_pos (by omega),Aar (p := Zs t u) (fun k x n => by unfold Gg Ts; rw [Abx w,Option.bind_some,Option.bind_some]; rfl) rfl,Option.bind_some,Option.bind_some]
 congr 1
 rcases Mw (Zs t u) l 0 with ⟨i,h1,h2,h3⟩ | ⟨h1,h2⟩
 ·rw [h2]
  have : l.any (Zs t u) = true := List.any_eq_true.mpr ⟨_,List.mem_of_find?_eq_some h3,List.find?_some h3⟩
  rw [this]
  simp
 ·rw [h1]
  rw [List.find?_eq_none] at h2
  rw [List.any_eq_false.mpr h2]
  rfl
theorem AcW {t : Af} (w : WfT t) (u id : Int) : Ly t u id = some (Jl t u id) := by
 have l2 := w.len2
 have hul := AbJ (t := t) id
 unfold Ly Jl Ca
 rw [Gv w,Option.bind_some,Option.bind_some]
 rw [show (decide (u ≥ 0) && decide (u ≤ 1048576)) = Ea u from rfl]
 cases Ea u with
 | false => rfl
 | true =>
  rw [if_pos rfl]
  by_cases h : 0 < (upT t id).length
  ·rw [if_pos (by simpa using h)]
   cases hu : (u == 0) with
   | true =>
    simp [Hp]
    exact h
   | false =>
    rw [if_neg (by simp),if_pos (by omega)]
    have : (((upT t id).drop 1).take (Ci (upT t id).length 1)) = (upT t id).drop 1 := by
     apply List.take_of_length_le
     have : Ci (upT t id).length 1 = (upT t id).length - 1 := rfl
     rw [this]
     simp
    rw [this,Ade w u (by simp; omega),Option.bind_some]
    unfold Hp
    congr 1
    have hd : decide (0 < (upT t id).length) = true := by simpa using h
    rw [hd]
    rfl
  ·rw [if_neg (by simpa using h)]
   have hd : decide (0 < (upT t id).length) = false := by simpa using h
   rw [hd]
   rfl
theorem Xk {t : Af} (w : WfT t) (u id : Int) : Iu t u id = some (Ep t u id) := by
 have l2 := w.len2
 have hul := AbJ (t := t) id
 unfold Iu Ep Ca Im
 rw [AcW w,Option.bind_some]
 cases Jl t u id with
 | true => rfl
 | false =>
  rw [if_neg (by simp),Option.bind_some]
  rw [show (decide (u ≥ 0) && decide (u ≤ 1048576)) = Ea u from rfl]
  cases Ea u with
  | false => rfl
  | true =>
   cases hu : (u != 0) with
   | false => rfl
   | true =>
    rw [if_pos rfl,if_pos rfl,Gv w,Option.bind_some,Ade w u (by omega),Option.bind_some]
    rfl
theorem Aav {t : Af} (w : WfT t) (u id : Int) : Mt t u id = some (Jl t u id) := by
 apply Ok.eq
 have l2 := w.len2
 have hul := AbJ (t := t) id
 unfold Mt
 refine Ok.step (Kn w id) ?_
 rw [AgT]
 have hJ : Ss t u (upT t id) true = some false := rfl
 refine Ok.ite (fun c => Ok.of_eq hJ ?_) fun c => ?_
 ·have : (upT t id).length = 0 := by
   have : ((upT t id).length : Int) = 0 := by simpa using c
   omega
  unfold Jl
  rw [this]
  simp
 have hpos : 0 < (upT t id).length := by
  have : ¬ ((upT t id).length : Int) = 0 := by simpa using c
  omega
 have hd : decide (0 < (upT t id).length) = true := by simpa using hpos
 unfold Py
 refine Ok.step rfl ?_
 rw [show (decide (u ≥ 0) && decide (u ≤ 1048576)) = Ea u from rfl]
 cases hu : Ea u with
 | false =>
  refine Ok.of_eq hJ ?_
  unfold Jl
  rw [hu]
  rfl
 | true =>
  unfold Ss
  rw [if_neg (by simp)]
  refine Ok.ite (fun e => Ok.ret ?_) fun e => ?_
  ·unfold Jl
   rw [hu,hd,e]
   rfl
  refine Ok.guard (by omega) ?_
  have hfull : Jl t u id = ((upT t id).drop 1).any (Zs t u) := by
   unfold Jl
   rw [hu,hd,e]
   rfl
  rw [hfull]
  have hm : Int.toNat (((upT t id).length : Int) - 1) = (upT t id).length - 1 := by omega
  rw [hm]
  refine Ok.for (fun j _ => ∀ a ∈ ((upT t id).drop 1).take j,Zs t u a = false) (by simp) ?_ ?_
  ·intro j _ n hj hI hn
   unfold AdE
   have ej : Int.toNat (1 + (j : Int)) = j + 1 := by omega
   have hj1 : j + 1 < (upT t id).length := by omega
   refine Ok.guard (by omega) ?_
   rw [ej]
   refine Ok.guard hj1 ?_
   have eg : (upT t id).getD (j + 1) 0 = (upT t id)[j + 1] := Qp hj1
   rw [eg]
   refine Ok.step (Qi w _) ?_
   refine Ok.ite (fun c => Ok.ret ?_) fun c => hn () ?_
   ·symm
    rw [List.any_eq_true]
    refine ⟨(upT t id)[j + 1],?_,c⟩
    have : ((upT t id).drop 1)[j]'(by simp; omega) = (upT t id)[j + 1] := by simp [Nat.add_comm]
    rw [← this]
    exact List.getElem_mem _
   ·intro a ha
    rw [List.take_add_one] at ha
    rcases List.mem_append.mp ha with ha | ha
    ·exact hI a ha
    ·have : ((upT t id).drop 1)[j]? = some (upT t id)[j + 1] := by
      rw [List.getElem?_drop,Nat.add_comm,List.getElem?_eq_getElem hj1]
     rw [this] at ha
     simp at ha
     subst ha
     exact c
  ·intro _ hI
   refine Ok.ret ?_
   symm
   rw [List.any_eq_false]
   intro a ha
   have := hI a (by rw [List.take_of_length_le (by simp)]; exact ha)
   simp [this]
theorem Amc {t : Af} (w : ¬ WfT t) (u id : Int) : Mt t u id = some false := by
 unfold Mt
 have : Dt t id = some [] := by
  unfold Dt
  rw [AeV w]
  rfl
 rw [this]
 rfl
theorem Akl {t : Af} (w : WfT t) (u id : Int) : Ep t u id = (Bd t id && (Jl t u id || (Ea u && (u != 0 && ((At t id).owner == u))))) := by
 cases hg : Bd t id with
 | false =>
  have := up_not hg
  unfold Ep Jl
  rw [this]
  simp
 | true =>
  have hup := AjT w hg
  have hd : (upT t id).drop 1 = upT t (At t id).parent := by rw [hup]; rfl
  have hl : decide (0 < (upT t id).length) = true := by rw [hup]; simp
  have ha : (upT t id).any (Zs t u) = (((At t id).owner == u) || (upT t (At t id).parent).any (Zs t u)) := by rw [hup]; rfl
  unfold Ep Jl
  rw [hd,hl,ha]
  cases Ea u <;> cases hu : (u == 0) <;> cases ((At t id).owner == u) <;> cases ((upT t (At t id).parent).any (Zs t u)) <;> simp_all
theorem Uo {t : Af} (w : WfT t) (u id : Int) : Gz t u id = some (Ep t u id) := by
 unfold Gz Py Lf
 rw [Qi w,Option.bind_some,Akl w]
 cases Bd t id with
 | false => rfl
 | true =>
  rw [if_pos rfl,Aav w,Option.bind_some]
  cases Jl t u id with
  | true => rfl
  | false =>
   rw [if_neg (by simp),Option.bind_some]
   rw [show (decide (u ≥ 0) && decide (u ≤ 1048576)) = Ea u from rfl]
   cases Ea u with
   | false => rfl
   | true => cases (u != 0) <;> rfl
theorem Alc {t : Af} (w : ¬ WfT t) (u id : Int) : Gz t u id = some false := by
 unfold Gz
 rw [Aaf w]
 rfl
def comN (t : Af) (a b : Int) : Int := ((upT t a).find? (fun x => (upT t b).contains x)).getD 0
theorem Ajd {t : Af} (w : WfT t) (a b : Int) : ∃ q,Sl t a b = some (comN t a b,q) := by
 have l2 := w.len2
 have h1 := AbJ (t := t) a
 have h2 := AbJ (t := t) b
 unfold Sl comN
 rw [Gv w,Option.bind_some,Gv w,Option.bind_some,if_pos (by omega)]
 rw [Gj (p := fun x => (upT t b).contains x) (f := fun x => (x,true)) (z := (0,false)) ?_ rfl]
 ·cases (upT t a).find? (fun x => (upT t b).contains x) with
  | none => exact ⟨false,rfl⟩
  | some x => exact ⟨true,rfl⟩
 ·intro k x n
  unfold Xt
  rw [Aml _ _ (by omega),Option.bind_some]
theorem AkK {t : Af} (w : WfT t) (a b : Int) : ∃ q,Wp t a b = some (comN t a b,q) := by
 have l2 := w.len2
 have h1 := AbJ (t := t) a
 have h2 := AbJ (t := t) b
 unfold Wp comN
 rw [Kn w,Option.bind_some,Kn w,Option.bind_some,AgT,AgT,if_pos (by omega)]
 refine ⟨((upT t a).find? (fun x => (upT t b).contains x)).isSome,?_⟩
 apply Ok.eq
 refine Ok.range (fun pre _ => pre.find? (fun x => (upT t b).contains x) = none) rfl ?_ ?_
 ·intro pre x post s n he hI hn
  unfold AaY
  refine Ok.guard (by omega) ?_
  refine Ok.range (fun q _ => x ∉ q) (by simp) ?_ ?_
  ·intro q y q' _ n2 he2 hI2 hn2
   unfold AaS
   refine Ok.ite (fun c => Ok.ret ?_) fun c => hn2 () ?_
   ·have hxy : x = y := by simpa using c
    have hc : (upT t b).contains x = true := by
     rw [he2,hxy]
     simp
    rw [he,List.find?_append,hI,List.find?_cons,hc]
    rfl
   ·have : ¬ x = y := by simpa using c
    intro h
    rcases List.mem_append.mp h with h | h
    ·exact hI2 h
    ·exact this (by simpa using h)
  ·intro _ hI2
   refine hn () ?_
   have hc : (upT t b).contains x = false := by
    simpa using hI2
   rw [List.find?_append,hI,List.find?_cons,hc]
   rfl
 ·intro s hI
  rw [hI]
  exact Ok.ret rfl
end Go.Dm

/- Plain theory, part 36: acts of users. -/
namespace Go.Dm
def Ti (h : Aa) (u id : Int) (right : Bool) : Int := if !Ea u then 1 else if !Bd h.tree id then 4 else if !right then 8 else 0
def actC (h : Aa) (u p : Int) (s : ByteArray) : Aa × Int × Int := if Ti h u p (Ep h.tree u p) != 0 then (zH,0,Ti h u p (Ep h.tree u p)) else Qx h p s
def actR (h : Aa) (u id : Int) : Aa × Int := if Ti h u id (Jl h.tree u id) != 0 then (zH,Ti h u id (Jl h.tree u id)) else Sz h id
noncomputable def actW (h : Aa) (u id a d : Int) : Aa × Int := if Ti h u id (Ep h.tree u id) != 0 then (zH,Ti h u id (Ep h.tree u id)) else Nk h id a d
noncomputable def actV (h : Aa) (u id : Int) : Aa × Int := if Ti h u id (Jl h.tree u id) != 0 then (zH,Ti h u id (Jl h.tree u id)) else Ma h id
def Oj (h : Aa) (u g k : Int) : Bool := (u == 0 || ((Bm h.tasks k).getD zK).user == u) && (Ep h.tree u g && Ep h.tree u (comN h.tree g ((Bm h.tasks k).getD zK).group))
def actM (h : Aa) (u k g : Int) : Aa × Int :=
 if !Ea u then (zH,1) else if !((Bm h.tasks k).isSome && (((Bm h.tasks k).getD zK).process == k) && Bd h.tree g) then (zH,4)
 else if !(Dx h k).all (Oj h u g) then (zH,8) else Zd h k g
def actT (h : Aa) (u k g : Int) : Aa × Int :=
 if !Ea u then (zH,1) else if !((Bm h.tasks k).isSome && Bd h.tree g) then (zH,4) else if !Oj h u g k then (zH,8) else Vk h k g
theorem AhN {h : Aa} (f : Bh h) (u id : Int) : Cq h u id = some (Ti h u id (Ep h.tree u id)) := by
 have w := f.snd.wf
 have l2 := w.tree.len2
 unfold Cq Ti Ca Dl
 rw [Option.bind_some,show (decide (u ≥ 0) && decide (u ≤ 1048576)) = Ea u from rfl,Ek f]
 cases Ea u with
 | false => rfl
 | true =>
  obtain ⟨q,eq,hq,_⟩ := Me h.tree id (by omega)
  simp only [Bool.not_true,Bool.false_eq_true,if_false,Option.bind_some,eq,hq,Xk w.tree]
  cases Bd h.tree id <;> cases Ep h.tree u id <;> rfl
theorem AiI {h : Aa} (f : Bh h) (u id : Int) : Cy h u id = some (Ti h u id (Jl h.tree u id)) := by
 have w := f.snd.wf
 have l2 := w.tree.len2
 unfold Cy Ti Ca Ds
 rw [Option.bind_some,show (decide (u ≥ 0) && decide (u ≤ 1048576)) = Ea u from rfl,Ek f]
 cases Ea u with
 | false => rfl
 | true =>
  obtain ⟨q,eq,hq,_⟩ := Me h.tree id (by omega)
  simp only [Bool.not_true,Bool.false_eq_true,if_false,Option.bind_some,eq,hq,AcW w.tree]
  cases Bd h.tree id <;> cases Jl h.tree u id <;> rfl
theorem AhH {h : Aa} (r : Wd h) (f : ¬ Bh h) (u id : Int) : Cq h u id = some 1 := by
 unfold Cq Ca Dl
 rw [Option.bind_some,Lq r f]
 cases (decide (u ≥ 0) && decide (u ≤ 1048576)) <;> rfl
theorem AiU {h : Aa} (r : Wd h) (f : ¬ Bh h) (u id : Int) : Cy h u id = some 1 := by
 unfold Cy Ca Ds
 rw [Option.bind_some,Lq r f]
 cases (decide (u ≥ 0) && decide (u ≤ 1048576)) <;> rfl
theorem AbD {h : Aa} (f : Bh h) (u id : Int) (b : Bool) : Ig h u id b = some (Ti h u id b) := by
 have w := f.snd.wf
 unfold Ig Ti Py Qw
 rw [Option.bind_some,show (decide (u ≥ 0) && decide (u ≤ 1048576)) = Ea u from rfl,La f]
 cases Ea u with
 | false => rfl
 | true =>
  simp only [Bool.not_true,Bool.false_eq_true,if_false,Option.bind_some,Hd w.tree]
  cases Bd h.tree id <;> cases b <;> rfl
theorem AbB {h : Aa} (f : ¬ Bh h) (u id : Int) (b : Bool) : Ig h u id b = some 1 := by
 unfold Ig Py Qw
 rw [Option.bind_some,AdC f]
 cases (decide (u ≥ 0) && decide (u ≤ 1048576)) <;> rfl
theorem Ael (t : Af) (u id : Int) : ∃ b,Gz t u id = some b := by
 by_cases w : WfT t
 ·exact ⟨_,Uo w u id⟩
 ·exact ⟨_,Alc w u id⟩
theorem Afa (t : Af) (u id : Int) : ∃ b,Mt t u id = some b := by
 by_cases w : WfT t
 ·exact ⟨_,Aav w u id⟩
 ·exact ⟨_,Amc w u id⟩
theorem Ahj {h : Aa} (f : Bh h) (u p : Int) {s : ByteArray} (hs : s.size ≤ 1073741824) : Hl h u p s = some (actC h u p s) := by
 unfold Hl actC
 rw [AhN f,Option.bind_some,Ahl f p hs]
 split <;> rfl
theorem AkE {h : Aa} (f : Bh h) (u p : Int) (s : ByteArray) : Qf h u p s = some (actC h u p s) := by
 unfold Qf actC
 rw [Uo f.snd.wf.tree,Option.bind_some,AbD f,Option.bind_some,AkM f p]
 split <;> rfl
theorem Ahm {h : Aa} (r : Wd h) (f : ¬ Bh h) (u p : Int) (s : ByteArray) : Hl h u p s = some (zH,0,1) := by
 unfold Hl
 rw [AhH r f]
 rfl
theorem Aku {h : Aa} (f : ¬ Bh h) (u p : Int) (s : ByteArray) : Qf h u p s = some (zH,0,1) := by
 unfold Qf
 obtain ⟨b,e⟩ := Ael h.tree u p
 rw [e,Option.bind_some,AbB f]
 rfl
theorem Ahe {h : Aa} (f : Bh h) (u id : Int) : Jm h u id = some (actR h u id) := by
 unfold Jm actR Ck
 rw [AiI f,Option.bind_some,Aif f.snd.wf]
 split <;> rfl
theorem AkC {h : Aa} (f : Bh h) (u id : Int) : Qa h u id = some (actR h u id) := by
 unfold Qa actR
 rw [Aav f.snd.wf.tree,Option.bind_some,AbD f,Option.bind_some,AkV f.snd.wf]
 split <;> rfl
theorem Ahi {h : Aa} (r : Wd h) (f : ¬ Bh h) (u id : Int) : Jm h u id = some (zH,1) := by
 unfold Jm
 rw [AiU r f]
 rfl
theorem AkP {h : Aa} (f : ¬ Bh h) (u id : Int) : Qa h u id = some (zH,1) := by
 unfold Qa
 obtain ⟨b,e⟩ := Afa h.tree u id
 rw [e,Option.bind_some,AbB f]
 rfl
theorem Agq {h : Aa} (f : Bh h) (u id : Int) {a d : Int} (a0 : -1 ≤ a) (a1 : a ≤ 32) (d0 : -1 ≤ d) (d1 : d ≤ 32) : Io h u id a d = some (actW h u id a d) := by
 unfold Io actW Ck
 rw [AhN f,Option.bind_some,Ahk f id a0 a1 d0 d1]
 split <;> rfl
theorem Ajv {h : Aa} (f : Bh h) (u id a d : Int) : Nr h u id a d = some (actW h u id a d) := by
 unfold Nr actW
 rw [Uo f.snd.wf.tree,Option.bind_some,AbD f,Option.bind_some,AkU f]
 split <;> rfl
theorem AgE {h : Aa} (r : Wd h) (f : ¬ Bh h) (u id a d : Int) : Io h u id a d = some (zH,1) := by
 unfold Io
 rw [AhH r f]
 rfl
theorem Aka {h : Aa} (f : ¬ Bh h) (u id a d : Int) : Nr h u id a d = some (zH,1) := by
 unfold Nr
 obtain ⟨b,e⟩ := Ael h.tree u id
 rw [e,Option.bind_some,AbB f]
 rfl
theorem Agj {h : Aa} (f : Bh h) (u id : Int) : Il h u id = some (actV h u id) := by
 unfold Il actV Ck
 rw [AiI f,Option.bind_some,AfH f]
 split <;> rfl
theorem Aju {h : Aa} (f : Bh h) (u id : Int) : Nx h u id = some (actV h u id) := by
 unfold Nx actV
 rw [Aav f.snd.wf.tree,Option.bind_some,AbD f,Option.bind_some,AjZ f]
 split <;> rfl
theorem AfQ {h : Aa} (r : Wd h) (f : ¬ Bh h) (u id : Int) : Il h u id = some (zH,1) := by
 unfold Il
 rw [AiU r f]
 rfl
theorem AjS {h : Aa} (f : ¬ Bh h) (u id : Int) : Nx h u id = some (zH,1) := by
 unfold Nx
 obtain ⟨b,e⟩ := Afa h.tree u id
 rw [e,Option.bind_some,AbB f]
 rfl
theorem Air {h : Aa} (w : WfH h) (u g k : Int) : Zl h u ((Bm h.tasks k).getD zK) g = some (Oj h u g k) := by
 unfold Zl Oj Pg
 obtain ⟨q,e⟩ := AkK w.tree g ((Bm h.tasks k).getD zK).group
 rw [e,Option.bind_some,Uo w.tree,Uo w.tree,Option.bind_some,Option.bind_some]
 cases (u == 0) with
 | true =>
  cases Ep h.tree u g <;> rfl
 | false =>
  cases (((Bm h.tasks k).getD zK).user == u) with
  | false => rfl
  | true => cases Ep h.tree u g <;> rfl
theorem moves_t {h : Aa} (w : WfH h) (u g : Int) {ks : List Int} (hne : ks ≠ []) (hl : ks.length ≤ 1000000) : Ng h u g ks = some (if !Bd h.tree g then 4 else if !ks.all (Oj h u g) then 8 else 0) := by
 have l2 := w.tree.len2
 unfold Ng
 obtain ⟨q,eq,hq,_⟩ := Me h.tree g (by omega)
 rw [eq,Option.bind_some,hq]
 cases Bd h.tree g with
 | false => rfl
 | true =>
 simp only [Bool.not_true,Bool.false_eq_true,if_false]
 rw [Xk w.tree,Option.bind_some]
 cases he : Ep h.tree u g with
 | false =>
  obtain ⟨k,r,rfl⟩ := List.exists_cons_of_ne_nil hne
  simp [Oj,he]
 | true =>
 simp only [Bool.not_true,Bool.false_eq_true,if_false]
 rw [if_pos (by omega)]
 rw [Gj (p := fun k => !Oj h u g k) (f := fun _ => (8 : Int)) (z := (0 : Int)) ?_ rfl,AeQ]
 ·congr 1
  have : ks.any (fun k => !Oj h u g k) = !ks.all (Oj h u g) := by
   rw [List.all_eq_not_any_not,Bool.not_not]
  rw [this]
 ·intro _ k n
  unfold Xi Ko
  obtain ⟨q,e⟩ := Ajd w.tree g ((Bm h.tasks k).getD zK).group
  rw [findC w,Option.bind_some,e,Option.bind_some,Xk w.tree,Option.bind_some]
  unfold Oj
  rw [he]
  cases hu : (u == 0) with
  | true =>
   have : (u != 0) = false := by simpa [bne] using hu
   rw [this]
   cases Ep h.tree u (comN h.tree g ((Bm h.tasks k).getD zK).group) <;> rfl
  | false =>
   have : (u != 0) = true := by simpa [bne] using hu
   rw [this]
   cases hus : (((Bm h.tasks k).getD zK).user == u) with
   | false =>
    have : (((Bm h.tasks k).getD zK).user != u) = true := by simpa [bne] using hus
    rw [this]
    rfl
   | true =>
    have : (((Bm h.tasks k).getD zK).user != u) = false := by simpa [bne] using hus
    rw [this]
    cases Ep h.tree u (comN h.tree g ((Bm h.tasks k).getD zK).group) <;> rfl
theorem AmN {h : Aa} {k : Int} {x : An} (hx : Bm h.tasks k = some x) (hp : x.process = k) : Dx h k ≠ [] := by
 intro e
 have hm := (Ox hx).1
 unfold Dx at e
 rw [List.map_eq_nil_iff,List.filter_eq_nil_iff] at e
 exact e x hm (by simpa using hp)
theorem AhK (h : Aa) (k : Int) : (Dx h k).length ≤ h.tasks.length := by
 unfold Dx
 rw [List.length_map]
 exact List.length_filter_le _ _
theorem Ait {h : Aa} (f : Bh h) (u k g : Int) : Hz h u k g = some (actM h u k g) := by
 have w := f.snd.wf
 have l1 := w.len
 have l2 := w.tree.len2
 unfold Hz actM Ca Pe Ck
 rw [Option.bind_some,show (decide (u ≥ 0) && decide (u ≤ 1048576)) = Ea u from rfl,Ek f]
 cases Ea u with
 | false => rfl
 | true =>
 simp only [Bool.not_true,Bool.false_eq_true,if_false,Option.bind_some]
 rw [findC w,Option.bind_some]
 cases hk : Bm h.tasks k with
 | none => rfl
 | some x =>
 simp only [Option.isSome_some,Option.getD_some,Bool.not_true,Bool.false_or,Bool.true_and]
 cases hp : (x.process == k) with
 | false =>
  have : (x.process != k) = true := by simpa [bne] using hp
  rw [this]
  rfl
 | true =>
  have : (x.process != k) = false := by simpa [bne] using hp
  have htl := AhK h k
  rw [this,if_neg (by simp),Ajs w.sorted (by omega),Option.bind_some,moves_t w u g (AmN hk (by simpa using hp)) (by omega),Option.bind_some,Ahd f]
  cases Bd h.tree g with
  | false => rfl
  | true => cases (Dx h k).all (Oj h u g) <;> rfl
theorem AlU {h : Aa} (f : Bh h) (u k g : Int) : Ua h u k g = some (actM h u k g) := by
 have w := f.snd.wf
 have l1 := w.len
 have l2 := w.tree.len2
 unfold Ua actM Tb
 rw [AeN w,Option.bind_some,AbD f,Option.bind_some]
 unfold Ti
 cases Ea u with
 | false => rfl
 | true =>
 have h1 : ((if (!true) = true then (1 : Int) else if (!Bd h.tree g) = true then 4 else if (!true) = true then 8 else 0) == 1) = false := by
  cases Bd h.tree g <;> rfl
 rw [h1]
 simp only [Bool.not_true,Bool.false_eq_true,if_false]
 cases hk : Bm h.tasks k with
 | none => rfl
 | some x =>
 simp only [Option.isSome_some,Option.getD_some,Bool.not_true,Bool.false_eq_true,if_false,Bool.true_and]
 cases hp : (x.process == k) with
 | false =>
  have : (x.process != k) = true := by simpa [bne] using hp
  rw [if_pos this]
  rfl
 | true =>
  have : (x.process != k) = false := by simpa [bne] using hp
  have htl := AhK h k
  rw [if_neg (by rw [this]; simp),Hd w.tree,Option.bind_some]
  cases Bd h.tree g with
  | false => rfl
  | true =>
   simp only [Bool.not_true,Bool.false_eq_true,if_false,Bool.and_true]
   rw [Zu w,Option.bind_some,if_pos (by omega)]
   rw [Gj (p := fun k => !Oj h u g k) (f := fun _ => (zH,8)) (z := Zd h k g) ?_ ?_,AeQ]
   ·have : (Dx h k).any (fun k => !Oj h u g k) = !(Dx h k).all (Oj h u g) := by
     rw [List.all_eq_not_any_not,Bool.not_not]
    rw [this]
   ·intro _ y n
    unfold AdH
    rw [AeN w,Option.bind_some,Air w,Option.bind_some]
    rfl
   ·unfold AdI
    rw [Afb f]
    rfl
theorem Ajc {h : Aa} (r : Wd h) (f : ¬ Bh h) (u k g : Int) : Hz h u k g = some (zH,1) := by
 unfold Hz Ca
 rw [Option.bind_some,Lq r f]
 cases (decide (u ≥ 0) && decide (u ≤ 1048576)) <;> rfl
theorem Amp {h : Aa} (f : ¬ Bh h) (u k g : Int) : Ua h u k g = some (zH,1) := by
 unfold Ua
 obtain ⟨x,e,_⟩ := Xg h k
 rw [e,Option.bind_some,AbB f]
 rfl
theorem Aea {h : Aa} (f : Bh h) (u k g : Int) : Gh h u k g = some (actT h u k g) := by
 have w := f.snd.wf
 have l1 := w.len
 have l2 := w.tree.len2
 unfold Gh actT Ca Iv Ck
 rw [Option.bind_some,show (decide (u ≥ 0) && decide (u ≤ 1048576)) = Ea u from rfl,Ek f]
 cases Ea u with
 | false => rfl
 | true =>
 simp only [Bool.not_true,Bool.false_eq_true,if_false,Option.bind_some]
 have hat : ∃ i : Int,Vn h k = some i ∧ decide (i < 0) = !(Bm h.tasks k).isSome := by
  rw [Abq h k (by omega)]
  rcases Mw (fun x : An => x.id == k) h.tasks default with ⟨i,h1,h2,h3⟩ | ⟨h1,h2⟩
  ·refine ⟨(i : Int),by rw [h2]; rfl,?_⟩
   unfold Bm
   rw [h3]
   simp
  ·refine ⟨-1,by rw [h1]; rfl,?_⟩
   unfold Bm
   rw [h2]
   rfl
 obtain ⟨i,e,hi⟩ := hat
 rw [e,Option.bind_some,hi]
 cases (Bm h.tasks k).isSome with
 | false => rfl
 | true =>
  rw [if_neg (by simp),moves_t w u g (by simp) (by simp),Option.bind_some,AcJ f]
  have : [k].all (Oj h u g) = Oj h u g k := by simp
  rw [this]
  cases Bd h.tree g with
  | false => rfl
  | true => cases Oj h u g k <;> rfl
theorem Ahg {h : Aa} (f : Bh h) (u k g : Int) : Js h u k g = some (actT h u k g) := by
 have w := f.snd.wf
 unfold Js actT Mk
 rw [AeN w,Option.bind_some,AbD f,Option.bind_some]
 unfold Ti
 cases Ea u with
 | false => rfl
 | true =>
 have h1 : ((if (!true) = true then (1 : Int) else if (!Bd h.tree g) = true then 4 else if (!true) = true then 8 else 0) == 1) = false := by
  cases Bd h.tree g <;> rfl
 rw [h1]
 simp only [Bool.not_true,Bool.false_eq_true,if_false]
 rw [Hd w.tree,Air w,Afu f]
 cases (Bm h.tasks k).isSome with
 | false => rfl
 | true =>
  cases Bd h.tree g with
  | false => rfl
  | true => cases Oj h u g k <;> rfl
theorem Aeq {h : Aa} (r : Wd h) (f : ¬ Bh h) (u k g : Int) : Gh h u k g = some (zH,1) := by
 unfold Gh Ca
 rw [Option.bind_some,Lq r f]
 cases (decide (u ≥ 0) && decide (u ≤ 1048576)) <;> rfl
theorem Ahn {h : Aa} (f : ¬ Bh h) (u k g : Int) : Js h u k g = some (zH,1) := by
 unfold Js
 obtain ⟨x,e,_⟩ := Xg h k
 rw [e,Option.bind_some,AbB f]
 rfl
end Go.Dm

/- Plain theory, part 37: rights grow downward. -/
namespace Go.Dm
theorem enter_any {t : Af} {u : Int} (hu : u ≠ 0) (id : Int) : Ep t u id = (Ea u && (upT t id).any (Zs t u)) := by
 have h0 : (u == 0) = false := by simpa using hu
 have h1 : (u != 0) = true := by simpa using hu
 unfold Ep Jl
 rw [h0,h1]
 cases Ea u with
 | false => rfl
 | true =>
  simp only [Bool.true_and,Bool.false_or]
  cases upT t id with
  | nil => rfl
  | cons a r =>
   simp only [List.drop_succ_cons,List.drop_zero,List.any_cons,List.length_cons]
   cases r.any (Zs t u) <;> simp
theorem enter_has {t : Af} {u id : Int} (w : WfT t) (h : Ep t u id = true) : Bd t id = true := by
 rw [Akl w] at h
 simp only [Bool.and_eq_true] at h
 exact h.1
theorem AmK {t : Af} (w : WfT t) {u : Int} (hu : u ≠ 0) {a b : Int} (h : Ep t u a = true) (hab : a ∈ upT t b) : Ep t u b = true := by
 rw [enter_any hu] at h ⊢
 simp only [Bool.and_eq_true] at h ⊢
 refine ⟨h.1,?_⟩
 obtain ⟨y,hy,rfl⟩ := AgZ hab
 obtain ⟨c,hc,e⟩ := List.any_eq_true.mp h.2
 exact List.any_eq_true.mpr ⟨c,up_trans w hc y hy hab,e⟩
theorem com_mem {t : Af} (w : WfT t) {u g b : Int} (h : Ep t u (comN t g b) = true) : comN t g b ∈ upT t g ∧ comN t g b ∈ upT t b := by
 unfold comN at h ⊢
 cases e : (upT t g).find? (fun x => (upT t b).contains x) with
 | none =>
  rw [e] at h
  have := enter_has w h
  rw [Option.getD_none,AlJ w] at this
  simp at this
 | some c =>
  have h1 := List.find?_some e
  simp only [Option.getD_some]
  exact ⟨List.mem_of_find?_eq_some e,by simpa using h1⟩
theorem may_cross {h : Aa} (w : WfH h) {u g k : Int} (hu : u ≠ 0) (hm : Oj h u g k = true) : ((Bm h.tasks k).getD zK).user = u ∧ Ep h.tree u g = true ∧ Ep h.tree u ((Bm h.tasks k).getD zK).group = true := by
 unfold Oj at hm
 simp only [Bool.and_eq_true,Bool.or_eq_true,beq_iff_eq] at hm
 obtain ⟨h1,h2,h3⟩ := hm
 refine ⟨?_,h2,AmK w.tree hu h3 (com_mem w.tree h3).2⟩
 rcases h1 with h1 | h1
 ·exact absurd h1 hu
 ·exact h1
theorem actM_ok {h : Aa} {u k g : Int} (e : (actM h u k g).2 = 0) : Ea u = true ∧ (Bm h.tasks k).isSome = true ∧ ((Bm h.tasks k).getD zK).process = k ∧ Bd h.tree g = true ∧ (Dx h k).all (Oj h u g) = true ∧ actM h u k g = Zd h k g := by
 unfold actM at e ⊢
 split at e
 ·simp at e
 rename_i c1
 rw [if_neg c1]
 split at e
 ·simp at e
 rename_i c2
 rw [if_neg c2]
 split at e
 ·simp at e
 rename_i c3
 rw [if_neg c3]
 simp only [Bool.not_eq_true',Bool.not_eq_false,Bool.and_eq_true,beq_iff_eq] at c1 c2 c3
 exact ⟨c1,c2.1.1,c2.1.2,c2.2,c3,rfl⟩
theorem actT_ok {h : Aa} {u k g : Int} (e : (actT h u k g).2 = 0) : Ea u = true ∧ (Bm h.tasks k).isSome = true ∧ Bd h.tree g = true ∧ Oj h u g k = true ∧ actT h u k g = Vk h k g := by
 unfold actT at e ⊢
 split at e
 ·simp at e
 rename_i c1
 rw [if_neg c1]
 split at e
 ·simp at e
 rename_i c2
 rw [if_neg c2]
 split at e
 ·simp at e
 rename_i c3
 rw [if_neg c3]
 simp only [Bool.not_eq_true',Bool.not_eq_false,Bool.and_eq_true] at c1 c2 c3
 exact ⟨c1,c2.1,c2.2,c3,rfl⟩
theorem AgS {h : Aa} {u id : Int} {b : Bool} (e : Ti h u id b = 0) : Ea u = true ∧ Bd h.tree id = true ∧ b = true := by
 unfold Ti at e
 cases hu : Ea u with
 | false => simp [hu] at e
 | true =>
  cases hg : Bd h.tree id with
  | false => simp [hu,hg] at e
  | true =>
   cases b with
   | false => simp [hu,hg] at e
   | true => exact ⟨rfl,rfl,rfl⟩
theorem actC_ok {h : Aa} {u p : Int} {s : ByteArray} (e : (actC h u p s).2.2 = 0) : Ea u = true ∧ Bd h.tree p = true ∧ Ep h.tree u p = true ∧ actC h u p s = Qx h p s := by
 unfold actC at e ⊢
 split at e
 ·rename_i c
  simp at c
  exact absurd e c
 ·rename_i c
  rw [if_neg c]
  have := AgS (by simpa using c)
  exact ⟨this.1,this.2.1,this.2.2,rfl⟩
theorem actR_ok {h : Aa} {u id : Int} (e : (actR h u id).2 = 0) : Ea u = true ∧ Bd h.tree id = true ∧ Jl h.tree u id = true ∧ actR h u id = Sz h id := by
 unfold actR at e ⊢
 split at e
 ·rename_i c
  simp at c
  exact absurd e c
 ·rename_i c
  rw [if_neg c]
  have := AgS (by simpa using c)
  exact ⟨this.1,this.2.1,this.2.2,rfl⟩
theorem actW_ok {h : Aa} {u id a d : Int} (e : (actW h u id a d).2 = 0) : Ea u = true ∧ Bd h.tree id = true ∧ Ep h.tree u id = true ∧ actW h u id a d = Nk h id a d := by
 unfold actW at e ⊢
 split at e
 ·rename_i c
  simp at c
  exact absurd e c
 ·rename_i c
  rw [if_neg c]
  have := AgS (by simpa using c)
  exact ⟨this.1,this.2.1,this.2.2,rfl⟩
theorem actV_ok {h : Aa} {u id : Int} (e : (actV h u id).2 = 0) : Ea u = true ∧ Bd h.tree id = true ∧ Jl h.tree u id = true ∧ actV h u id = Ma h id := by
 unfold actV at e ⊢
 split at e
 ·rename_i c
  simp at c
  exact absurd e c
 ·rename_i c
  rw [if_neg c]
  have := AgS (by simpa using c)
  exact ⟨this.1,this.2.1,this.2.2,rfl⟩
theorem Amy {h : Aa} (f : Bh h) (u p : Int) (s : ByteArray) : Nz (actC h u p s).1 := by
 unfold actC
 split
 ·exact Cb
 ·by_cases e : (Qx h p s).2.2 = 0
  ·exact (AgC f e).snd.wf.small
  ·unfold Qx at e ⊢
   split
   ·exact Cb
   ·rename_i c1
    rw [if_neg c1] at e
    simp at e
theorem Ana {h : Aa} (w : WfH h) (u id : Int) : Nz (actR h u id).1 := by
 unfold actR
 split
 ·exact Cb
 ·exact AkO w.small _
theorem AmJ {h : Aa} (f : Bh h) (u id a d : Int) : Nz (actW h u id a d).1 := by
 unfold actW
 split
 ·exact Cb
 ·exact AkJ f _ _ _
theorem AmL {h : Aa} (u id : Int) : Nz (actV h u id).1 := by
 unfold actV
 split
 ·exact Cb
 ·exact AjH _
theorem AlS {h : Aa} (w : WfH h) (k g : Int) : Nz (Zd h k g).1 := by
 unfold Zd
 split
 ·exact Cb
 split
 ·exact Cb
 split
 ·exact Cb
 ·have := w.small
  exact ⟨this.1,by simpa using this.2⟩
theorem Aln {h : Aa} (w : WfH h) (k g : Int) : Nz (Vk h k g).1 := by
 unfold Vk
 split
 ·exact Cb
 split
 ·exact Cb
 split
 ·exact Cb
 ·have := w.small
  exact ⟨this.1,by simpa using this.2⟩
theorem Amu {h : Aa} (w : WfH h) (u k g : Int) : Nz (actM h u k g).1 := by
 unfold actM
 split
 ·exact Cb
 split
 ·exact Cb
 split
 ·exact Cb
 ·exact AlS w _ _
theorem Amx {h : Aa} (w : WfH h) (u k g : Int) : Nz (actT h u k g).1 := by
 unfold actT
 split
 ·exact Cb
 split
 ·exact Cb
 split
 ·exact Cb
 ·exact Aln w _ _
end Go.Dm

/- The law DelegateActs, on the model. -/
namespace Go.Dm
theorem act_ok {d : Aq} (hd : Bp d) {h : Aa} (r : Wd h) (u : Int) : Ok (Zz d h u) (fun q => Bp q.2.2.2 ∧ q.2.2.1 = true ∧ (q.2.1 = 0 → WfH q.1)) := by
 have l1 := r.nodes
 have l2 := r.tasks
 have hJ : ∀ (q : Aa) (e i : Int) (d : Aq),Bp d → Nz q → (e = 0 → WfH q) → Ok (Jt (d,q,q,e,e,i,i)) (fun q => Bp q.2.2.2 ∧ q.2.2.1 = true ∧ (q.2.1 = 0 → WfH q.1)) := by
  intro q e i d hd hs hw
  unfold Jt
  rw [if_pos (by simp),if_pos (by simp),AjL q hs.1 hs.2,Option.bind_some]
  exact Ok.ret ⟨hd,rfl,hw⟩
 have bad : (1 : Int) = 0 → WfH zH := fun h => by simp at h
 unfold Zz
 refine Ok.bind (AeM hd _ (by omega)) fun g hd => Ok.bind (AgN hd _ (by omega)) fun k hd => Ok.bind (Dg hd 7 (by omega) (by omega)) fun m ⟨hd,m0,m1⟩ => ?_
 refine Ok.ite (fun _ => ?_) fun c0 => ?_
 ·refine Ok.bind (Name_ok hd) fun s ⟨hd,hv⟩ => ?_
  have hsz : s.1.size ≤ 1073741824 := by
   unfold Dy at hv
   simp only [Bool.and_eq_true,decide_eq_true_eq] at hv
   omega
  by_cases f : Bh h
  ·rw [Ahj f u g.1 hsz,Option.bind_some,AkE f,Option.bind_some]
   refine hJ _ _ _ _ hd (Amy f _ _ _) fun e => ?_
   have := (actC_ok e).2.2.2
   rw [this] at e ⊢
   exact (AgC f e).snd.wf
  ·rw [Ahm r f,Option.bind_some,Aku f,Option.bind_some]
   exact hJ _ _ _ _ hd Cb bad
 refine Ok.ite (fun _ => ?_) fun c1 => ?_
 ·by_cases f : Bh h
  ·rw [Ahe f,Option.bind_some,AkC f,Option.bind_some]
   refine hJ _ _ _ _ hd (Ana f.snd.wf _ _) fun e => ?_
   have := (actR_ok e).2.2.2
   rw [this] at e ⊢
   exact Amw f.snd.wf rfl e
  ·rw [Ahi r f,Option.bind_some,AkP f,Option.bind_some]
   exact hJ _ _ _ _ hd Cb bad
 refine Ok.ite (fun _ => ?_) fun c2 => ?_
 ·have hJ2 : ∀ y : Aq × Int × Int,Bp y.1 → -1 ≤ y.2.1 → y.2.1 ≤ 32 → -1 ≤ y.2.2 → y.2.2 ≤ 32 → Ok (Vi h u g y) (fun q => Bp q.2.2.2 ∧ q.2.2.1 = true ∧ (q.2.1 = 0 → WfH q.1)) := by
   intro y hd a0 a1 d0 d1
   unfold Vi
   by_cases f : Bh h
   ·rw [Agq f u g.1 a0 a1 d0 d1,Option.bind_some,Ajv f,Option.bind_some]
    refine hJ _ _ _ _ hd (AmJ f _ _ _ _) fun e => ?_
    have := (actW_ok e).2.2.2
    rw [this] at e ⊢
    exact (AiQ f e).1.snd.wf
   ·rw [AgE r f,Option.bind_some,Aka f,Option.bind_some]
    exact hJ _ _ _ _ hd Cb bad
  refine Ok.bind (Vd hd) fun c ⟨hd,c0,c1⟩ => Ok.bind (Aaa hd 3 (by omega)) fun b hd => ?_
  refine Ok.ite (fun _ => Ok.bind (Vd hd) fun e ⟨hd,e0,e1⟩ => ?_) fun _ => ?_
  ·exact hJ2 _ hd (by simp) (by simp) e0 e1
  ·exact hJ2 _ hd c0 c1 (by simp) (by simp)
 refine Ok.ite (fun _ => ?_) fun c3 => ?_
 ·by_cases f : Bh h
  ·rw [Agj f,Option.bind_some,Aju f,Option.bind_some]
   refine hJ _ _ _ _ hd (AmL _ _) fun e => ?_
   have := (actV_ok e).2.2.2
   rw [this] at e ⊢
   exact (AlX e).1.snd.wf
  ·rw [AfQ r f,Option.bind_some,AjS f,Option.bind_some]
   exact hJ _ _ _ _ hd Cb bad
 have hJ3 : ∀ b,(b = false → m.1 = 6) → Ok (Vr h u g k m b) (fun q => Bp q.2.2.2 ∧ q.2.2.1 = true ∧ (q.2.1 = 0 → WfH q.1)) := by
  intro b hb
  unfold Vr
  refine Ok.ite (fun _ => ?_) fun cb => ?_
  ·by_cases f : Bh h
   ·rw [Ait f,Option.bind_some,AlU f,Option.bind_some]
    refine hJ _ _ _ _ hd (Amu f.snd.wf _ _ _) fun e => ?_
    have := (actM_ok e).2.2.2.2.2
    rw [this] at e ⊢
    exact (attK_fits f e).snd.wf
   ·rw [Ajc r f,Option.bind_some,Amp f,Option.bind_some]
    exact hJ _ _ _ _ hd Cb bad
  ·rw [if_pos (by simpa using hb cb)]
   by_cases f : Bh h
   ·rw [Aea f,Option.bind_some,Ahg f,Option.bind_some]
    refine hJ _ _ _ _ hd (Amx f.snd.wf _ _ _) fun e => ?_
    have := (actT_ok e).2.2.2.2
    rw [this] at e ⊢
    exact (Amv f e).snd.wf
   ·rw [Aeq r f,Option.bind_some,Ahn f,Option.bind_some]
    exact hJ _ _ _ _ hd Cb bad
 simp only [beq_eq_false_iff_ne,ne_eq] at c0 c1 c2 c3
 refine Ok.ite (fun c4 => hJ3 _ fun h => ?_) fun c4 => hJ3 _ fun h => ?_
 ·rw [c4] at h
  simp at h
 ·simp only [beq_eq_false_iff_ne,ne_eq] at c4 h
  omega
theorem AiT (l : List Int) (us : Int) : Ok (Mi l us) (· = true) := by
 have sane : ∀ {f : Bool → Option Bool},f true = some true → Ok (Option.bind Xp f) (· = true) := fun h => Ok.step AlW (Ok.of_eq h rfl)
 unfold Mi Abz
 refine Ok.step rfl ?_
 refine Ok.ite (fun _ => sane rfl) fun c => ?_
 have hl : l.length ≤ 600 := by
  have : ((l.length : Nat) : Int) ≤ 600 := by simpa using c
  omega
 refine Ok.step (a := { l := l,atF := 0 }) rfl ?_
 refine Ok.bind (Alv (dice_roll hl) 6 7 (by omega) (by omega) (by omega) (by omega)) fun r5 ⟨w,hd⟩ => ?_
 refine Ok.for (fun _ s => WfH s.1 ∧ Bp s.2) ⟨w,hd⟩ ?_ ?_
 ·intro j s n _ ⟨w,hs⟩ hn
  unfold Tk
  refine Ok.bind (AjA hs) fun a hs => Ok.bind (Dg hs 3 (by omega) (by omega)) fun b ⟨hs,_,_⟩ => Ok.bind (Dg hs 3 (by omega) (by omega)) fun c ⟨hs,_,_⟩ => Ok.bind (Dg hs 4 (by omega) (by omega)) fun e ⟨hs,e0,e1⟩ => ?_
  refine Ok.guard ⟨e0,by simpa using e1⟩ (Ok.guard (by simp only [List.length_cons,List.length_nil]; omega) ?_)
  refine Ok.bind (act_ok hs w.raw _) fun q ⟨h1,h2,h3⟩ => ?_
  rw [h2,if_neg (by simp)]
  refine Ok.ite (fun c => hn _ ⟨h3 (by simpa using c),h1⟩) fun _ => hn _ ⟨w,h1⟩
 ·intro s ⟨w,hs⟩
  unfold Tg
  refine Ok.bind (Ain hs w) fun o ⟨ro,hs⟩ => Ok.bind (Dg hs 3 (by omega) (by omega)) fun u ⟨hs,_,_⟩ => ?_
  refine Ok.bind (act_ok hs ro _) fun q ⟨h1,h2,h3⟩ => ?_
  rw [h2,if_pos rfl]
  exact sane rfl
theorem Aho (l : List Int) (us : Int) (_ : ∀ n ∈ l,-9223372036854775808 ≤ n ∧ n ≤ 9223372036854775807) (_ : IntKind.i64.min ≤ us) (_ : us ≤ IntKind.i64.max) : Mi l us = some true := (AiT l us).eq
end Go.Dm

/- Models of Go types and functions, printed by a program. -/
namespace Go.Dm
set_option linter.unusedVariables false

end Go.Dm


/- Types of the program. -/
namespace Go.Dm
open Go.Proofs
set_option linter.unusedVariables false
def Tt : Ty := [(3,⟨.int .i64,1,8,[.int .i64 0],false⟩),
  (5,⟨.int .u8,1,1,[.int .u8 0],false⟩),
  (9,⟨.str,1,16,[.string ByteArray.empty],false⟩),
  (22,⟨.slice 3,1,24,[.slice none 0 0],false⟩),
  (27,⟨.slice 52,1,24,[.slice none 0 0],false⟩),
  (29,⟨.struct [(0,27),(1,3)],2,32,[.slice none 0 0,.int .i64 0],false⟩),
  (30,⟨.slice 59,1,24,[.slice none 0 0],false⟩),
  (32,⟨.struct [(0,29),(2,30),(3,3)],4,64,[.slice none 0 0,.int .i64 0,.slice none 0 0,.int .i64 0],false⟩),
  (34,⟨.int .i64,1,8,[.int .i64 0],false⟩),
  (52,⟨.struct [(0,3),(1,3),(2,9),(3,3),(4,3),(5,3)],6,56,[.int .i64 0,.int .i64 0,.string ByteArray.empty,.int .i64 0,.int .i64 0,.int .i64 0],true⟩),
  (59,⟨.struct [(0,3),(1,3),(2,3),(3,3)],4,32,[.int .i64 0,.int .i64 0,.int .i64 0,.int .i64 0],true⟩),
  (66,⟨.struct [(0,22),(1,3)],2,32,[.slice none 0 0,.int .i64 0],false⟩),
  (76,⟨.slice 9,1,24,[.slice none 0 0],false⟩),
  (100,⟨.map 3 3,1,8,[(.map none)],false⟩),
  (122,⟨.slice 5,1,24,[.slice none 0 0],false⟩),
  (127,⟨.int .u64,1,8,[.int .u64 0],false⟩),
  (129,⟨.int .i64,1,8,[.int .i64 0],false⟩),
  (139,⟨.int .u64,1,8,[.int .u64 0],false⟩),
  (140,⟨.int .u64,1,8,[.int .u64 0],false⟩)]
theorem Tgood : Nn Tryz.prog Tt := tyGood_of ⟨⟨⟨by kernel_rfl,by kernel_rfl⟩,trivial⟩,⟨⟨by kernel_rfl,by kernel_rfl⟩,trivial⟩,⟨⟨by kernel_rfl,by kernel_rfl⟩,trivial⟩,⟨⟨by kernel_rfl,by kernel_rfl⟩,trivial⟩,⟨⟨by kernel_rfl,by kernel_rfl⟩,trivial⟩,⟨⟨by kernel_rfl,by kernel_rfl⟩,trivial⟩,⟨⟨by kernel_rfl,by kernel_rfl⟩,trivial⟩,⟨⟨by kernel_rfl,by kernel_rfl⟩,trivial⟩,⟨⟨by kernel_rfl,by kernel_rfl⟩,trivial⟩,⟨⟨by kernel_rfl,by kernel_rfl⟩,⟨by kernel_rfl,by kernel_rfl,by kernel_rfl⟩⟩,⟨⟨by kernel_rfl,by kernel_rfl⟩,⟨by kernel_rfl,by kernel_rfl,by kernel_rfl⟩⟩,⟨⟨by kernel_rfl,by kernel_rfl⟩,trivial⟩,⟨⟨by kernel_rfl,by kernel_rfl⟩,trivial⟩,⟨⟨by kernel_rfl,by kernel_rfl⟩,trivial⟩,⟨⟨by kernel_rfl,by kernel_rfl⟩,trivial⟩,⟨⟨by kernel_rfl,by kernel_rfl⟩,trivial⟩,⟨⟨by kernel_rfl,by kernel_rfl⟩,trivial⟩,⟨⟨by kernel_rfl,by kernel_rfl⟩,trivial⟩,⟨⟨by kernel_rfl,by kernel_rfl⟩,trivial⟩,trivial⟩ (by kernel_rfl) (by kernel_rfl)
theorem mixed : Tryz.prog.follows .mixedOrders = true := by kernel_rfl
theorem RK {cx : Cx} {σ : St} {Q : Exit → St → Prop} {nt : Nat} (hnt : cx.nt = nt) {ops : Array Oper} {id : Nat} {draw : Bool} {r : List Code} (xs : List Orc) (sl : List (Nat × MV)) (ob : List (Nat × Obj))
    {q : Prop} (hq : q) (hQ : DW Tryz.prog cx r (Am sl ob) Q) (h : Aak Tryz.prog Tt nt ops xs (De sl) (De ob) draw σ = some ((sl,ob),q) := by kernel_rfl) : DW Tryz.prog cx (.region id ops draw :: r) σ Q := DW.rk Tgood mixed hnt xs sl ob hq h hQ
theorem RD {cx : Cx} {Q : Exit → St → Prop} {nt : Nat} (hnt : cx.nt = nt) {ops : Array Oper} {id : Nat} {draw : Bool} {r : List Code} {sl0 : List (Nat × MV)} {ob0 : List (Nat × Obj)} (xs : List Orc) (ds : List Nat) (us : List (Nat × MV)) (dk : List Nat) (uo : List (Nat × Obj))
    {q : Prop} (hq : q) (hQ : DW Tryz.prog cx r (Am (up ds us sl0) (up dk uo ob0)) Q) (h : Aak Tryz.prog Tt nt ops xs (De (up ds us sl0)) (De (up dk uo ob0)) draw (Am sl0 ob0) = some ((up ds us sl0,up dk uo ob0),q) := by kernel_rfl) : DW Tryz.prog cx (.region id ops draw :: r) (Am sl0 ob0) Q := DW.rd Tgood mixed hnt xs ds us dk uo hq hQ h
theorem SO {f : FuncId} {fn : Func} {c : Code} (hf : Tryz.prog.funcs[f]? = some fn) (hb : fn.body = some c)
    {args : List MV} {outs : List Body} {res : MV} {outs' news : List Body} (hlen : outs'.length = outs.length)
    (sl : List (Nat × MV)) (ob : List (Nat × Obj)) (hd : ∀ cx : Cx,cx.nt = fn.ntmps → DW Tryz.prog cx [c] (Am sl ob) (finQ Tt fn.results.toList outs.length res (outs' ++ news)))
    (hname : fn.name ≠ "runtime.NumGoroutine" := by decide) (hle : Nat.ble args.length fn.ntmps = true := by rfl) (hm : Nat.ble outs.length 1000 = true := by rfl)
    (h1 : AbP (upN args.length 0) (upN outs.length 0) ⟨fun t => (args[t]?).getD .any,Cc outs⟩ = sl := by kernel_rfl)
    (h2 : Ze (upN outs.length 0) ⟨fun t => (args[t]?).getD .any,Cc outs⟩ = ob := by kernel_rfl) :
    Spec Tryz.prog f args outs res outs' news := spec_of Tgood hf hname hb hlen (Nat.le_of_ble_eq_true hle) (Nat.le_of_ble_eq_true hm) h1 h2 fun cx hnt => DW.start (hd cx hnt)
theorem RN {cx : Cx} {σ : St} {Q : Exit → St → Prop} {nt : Nat} (hnt : cx.nt = nt) {ops : Array Oper} {id : Nat} {draw : Bool} {r : List Code} (xs : List Orc) (sl : List (Nat × MV)) (ob : List (Nat × Obj))
    (ps : List (Nat × MV)) (qs : List (Nat × Body)) {q : Prop} (hq : q) (h : Aak Tryz.prog Tt nt ops xs (De sl) (De ob) draw σ = some ((Uh ps sl,Sr qs ob),q)) (hs : SP sl ps) (ho : OP ob qs)
    (hQ : DW Tryz.prog cx r (Am sl ob) Q) : DW Tryz.prog cx (.region id ops draw :: r) σ Q := DW.rn Tgood mixed hnt xs sl ob ps qs hq h hs ho hQ
theorem RT {cx : Cx} {σ : St} {nt : Nat} (hnt : cx.nt = nt) {ops : Array Oper} {draw : Bool} {sl : List (Nat × MV)} {ob : List (Nat × Obj)} (xs : List Orc)
    (ps : List (Nat × MV)) {q : Prop} (hq : q) (h : Aak Tryz.prog Tt nt ops xs (De sl) (De ob) draw σ = some ((Uh ps sl,ob),q)) (hs : SP sl ps) : RegTo Tryz.prog cx ops draw σ sl ob := RegTo.rn Tgood mixed hnt xs ps hq h hs
end Go.Dm


/- Go functions compute their models, printed by a program. -/
namespace Go.Dm
open Go.Proofs
set_option linter.unusedVariables false
theorem AjI (p0 : List Int) (RES : Bool) (hm : Abz p0 = some RES) : Spec Tryz.prog 5 [.p (slI p0)] [] (pB RES) [] [] := by
 unfold Abz at hm
 refine SO Tryz.func5 rfl rfl [(0,.p (slI p0))] [] ?_
 intro cx hnt
 refine Sq (RK hnt (.no :: []) [(0,.p (slI p0))] [] tv ?_)
 refine Sq (RK hnt (nn 4 []) [(2,pB (decide (((p0.length : Nat) : Int) ≤ 600)))] [] tv ?_)
 obtain rfl := sj hm
 exact DW.ret (Ai [] [] (pB (decide (((p0.length : Nat) : Int) ≤ 600))))
abbrev o2 (ks : List Nat) (b : Bool) (RES : Bool) : Orc := .call 5 ks b (pB RES) [] []

abbrev c5e1 := ({ id := 1,parent := 0,name := ByteArray.empty,control := 0,kind := 0,owner := 0 } : Ah)
theorem AgJ (RES : Af) (hm : Acy = some RES) : Spec Tryz.prog 74 [] [] (.agg [ow 0 RES.nodes.length,pI RES.next]) [] [Ac RES.nodes] := by
 unfold Acy at hm
 refine SO Tryz.func74 rfl rfl [] [] ?_
 intro cx hnt
 refine Sq (RK hnt (.no :: []) [(0,rr 1000)] [(1000,bx [.p (.sl .nil 0 0 (fun _ => [])),pI 0])] tv ?_)
 refine Sq (RN hnt (nn 4 []) [(0,rr 1000)] [(1000,bx [ow 1016 [(c5e1)].length,pI 2]),(1016,ob0 (Ac [(c5e1)]))] [] [(1000,.box [ow 1016 1,pI 2]),(1016,.row 6 1 (cut 6 [vi 1,vi 0,vs ByteArray.empty,vi 0,vi 0,vi 0]))] tv (by kernel_rfl) .nil (.cons rfl (.box (.cons (MLe.ownLen (enc := Ak) (d := As) (f := (cut 6 [vi 1,vi 0,vs ByteArray.empty,vi 0,vi 0,vi 0])) (RowIs.lit (enc := Ak) (d := As) (n := 1) (f := (cut 6 [vi 1,vi 0,vs ByteArray.empty,vi 0,vi 0,vi 0])) [(c5e1)] rfl (fun | 0,_ => rfl | n + 1,h => absurd h (by omega)))) (.cons .rfl .nil))) (.cons rfl (BLe.typed (RowIs.lit (enc := Ak) (d := As) (n := 1) (f := (cut 6 [vi 1,vi 0,vs ByteArray.empty,vi 0,vi 0,vi 0])) [(c5e1)] rfl (fun | 0,_ => rfl | n + 1,h => absurd h (by omega)))) .nil)) ?_)
 obtain rfl := sj hm
 exact DW.ret (Ai [Ac [(c5e1)]] [1016] (.agg [ow 0 [(c5e1)].length,pI 2]))
abbrev o5 (ks : List Nat) (b : Bool) (RES : Af) : Orc := .call 74 ks b (.agg [ow 0 RES.nodes.length,pI RES.next]) [] [Ac RES.nodes]

theorem AfU (RES : Aa) (hm : Aev = some RES) : Spec Tryz.prog 30 [] [] (.agg [ow 0 RES.tree.nodes.length,pI RES.tree.next,ow 1 RES.tasks.length,pI RES.next]) [] [Ac RES.tree.nodes,Ae RES.tasks] := by
 unfold Aev at hm
 refine SO Tryz.func30 rfl rfl [] [] ?_
 intro cx hnt
 refine Sq (RK hnt (.no :: []) [(0,rr 1000)] [(1000,bx [.p (.sl .nil 0 0 (fun _ => [])),pI 0,.p (.sl .nil 0 0 (fun _ => [])),pI 0])] tv ?_)
 obtain ⟨r1,hr1,hm⟩ := bo hm
 refine Sq (RK hnt (o5 [] true r1 :: nn 2 []) [(0,rr 1000)] [(1000,bx [ow 1008 r1.nodes.length,pI r1.next,.p (.sl .nil 0 0 (fun _ => [])),pI 1]),(1008,ob0 (Ac r1.nodes))] (an (AgJ r1 hr1) tv) ?_)
 refine DW.cv [] [] [] [(1000,bx [ow 1008 r1.nodes.length,pI r1.next,ow 100000 0,pI 1]),(100000,ob0 (Ae []))] (Conv.ads [(.o 1000 2,100000,4,elems Ao Ax [])]) ?_
 obtain rfl := sj hm
 exact DW.ret (Ai [Ac r1.nodes,Ae []] [1008,100000] (.agg [ow 0 r1.nodes.length,pI r1.next,ow 1 0,pI 1]))
abbrev o4 (ks : List Nat) (b : Bool) (RES : Aa) : Orc := .call 30 ks b (.agg [ow 0 RES.tree.nodes.length,pI RES.tree.next,ow 1 RES.tasks.length,pI RES.next]) [] [Ac RES.tree.nodes,Ae RES.tasks]

abbrev Adc (p0 : ByteArray) (k1 : Int) : Nat × MV := (57,pB (!((((Bn p0 (Int.toNat k1)) : Nat) : Int) == 45)))
theorem Aek (p0 : ByteArray) (RES : Bool) (hm : Vt p0 = some RES) : Spec Tryz.prog 118 [pS p0] [] (pB RES) [] [] := by
 unfold Vt at hm
 refine SO Tryz.func118 rfl rfl [(0,pS p0)] [] ?_
 intro cx hnt
 refine Sq (RK hnt (.no :: []) [(0,pS p0)] [] tv ?_)
 refine Sq (Sq ?_)
 refine Jn (ι := Bool) (fun (y1 : Bool) => Am [(0,pS p0),(17,pB y1)] []) (fun y1 => (Ql p0) y1 = some RES) ?_ ?_
 ·intro y1 hm
  unfold Ql at hm
  refine Ag hm ?_ ?_
  ·intro h4 hm
   refine Sq (RK hnt (.no :: []) [(2,pB false)] [] tv ?_)
   obtain rfl := sj hm
   exact DW.ret (Ai [] [] (pB false))
  ·intro h4 hm
   refine Sk ?_
   refine Sq (Sq (RK hnt (.no :: []) [(0,pS p0),(3,pI 0)] [] tv ?_))
   refine Bk ?_
   obtain ⟨hc1,hm⟩ := go1 hm
   refine DW.forO (fun (k1 : Int) (s1 : Unit) => Am [(0,pS p0),(3,pI k1)] []) (lo := 0) (hi := ((p0.size : Nat) : Int)) hm .refl ?_
   intro k1 s1 n1 hk1 hs1 he1
   refine Sq (Sq (RD hnt (nn 4 []) [] [(21,pB (decide (k1 < ((p0.size : Nat) : Int))))] [] [] tv ?_))
   refine Bx (decide (k1 < ((p0.size : Nat) : Int))) ?_ ?_
   ·intro h55
    have hlt1 : k1 < ((p0.size : Nat) : Int) := by have := of_decide_eq_true h55; omega
    have hm := hs1 hlt1
    unfold AcD at hm
    refine Sk ?_
    refine Sq (Bk ?_)
    obtain ⟨g56,hm⟩ := go1 hm
    refine Sq (RD hnt (nn 4 []) [21] [(4,.p (vk .u8 (((Bn p0 (Int.toNat k1)) : Nat) : Int)))] [] [] (an g56.1 (an g56.2 tv)) ?_)
    refine Sq (DW.regJ (sl2 := [(0,pS p0),(3,pI k1),(57,pB (!((((((decide ((((Bn p0 (Int.toNat k1)) : Nat) : Int) ≥ 97)) && (decide ((((Bn p0 (Int.toNat k1)) : Nat) : Int) ≤ 122))) || ((decide ((((Bn p0 (Int.toNat k1)) : Nat) : Int) ≥ 65)) && (decide ((((Bn p0 (Int.toNat k1)) : Nat) : Int) ≤ 90)))) || ((decide ((((Bn p0 (Int.toNat k1)) : Nat) : Int) ≥ 48)) && (decide ((((Bn p0 (Int.toNat k1)) : Nat) : Int) ≤ 57)))) || ((((Bn p0 (Int.toNat k1)) : Nat) : Int) == 95)) || ((((Bn p0 (Int.toNat k1)) : Nat) : Int) == 45))))]) (ob2 := []) ?_ ?_)
    ·rcases bt (decide ((((Bn p0 (Int.toNat k1)) : Nat) : Int) ≥ 97)) with h57 | h57
     ·rcases bt (decide ((((Bn p0 (Int.toNat k1)) : Nat) : Int) ≤ 122)) with h58 | h58
      ·exact RT hnt (nn 5 (pT :: .no :: sk 6 (pT :: .no :: sk 6 (pT :: .no :: sk 2 (pT :: .no :: sk 2 (pT :: .no :: [])))))) [(57,pB false)] (an3 h57 (an5 h58 (an5 tt (an6 tt tv)))) (by kernel_rfl) (.cons rfl (.of_eq (by rw [h57,h58]; try rfl)) .nil)
      ·rcases bt (decide ((((Bn p0 (Int.toNat k1)) : Nat) : Int) ≥ 65)) with h59 | h59
       ·rcases bt (decide ((((Bn p0 (Int.toNat k1)) : Nat) : Int) ≤ 90)) with h60 | h60
        ·exact RT hnt (nn 5 (pT :: nn 6 (pT :: pF :: .no :: sk 6 (pT :: .no :: sk 2 (pT :: .no :: sk 2 (pT :: .no :: [])))))) [(57,pB false)] (an3 h57 (an3 h58 (an2 h59 (an h58 (an h59 (an h58 (an5 h60 (an6 tt tv)))))))) (by kernel_rfl) (.cons rfl (.of_eq (by rw [h57,h58,h59,h60]; try rfl)) .nil)
        ·rcases bt (decide ((((Bn p0 (Int.toNat k1)) : Nat) : Int) ≥ 48)) with h61 | h61
         ·rcases bt (decide ((((Bn p0 (Int.toNat k1)) : Nat) : Int) ≤ 57)) with h62 | h62
          ·exact RT hnt (nn 5 (pT :: nn 6 (pT :: pF :: nn 6 (pT :: pF :: .no :: sk 2 (pT :: .no :: sk 2 (pT :: .no :: [])))))) [(57,pB false)] (an3 h57 (an3 h58 (an2 h59 (an h58 (an h59 (an h58 (an3 h60 (an2 h61 (an h60 (an h61 (an h60 (an3 h62 (an3 tt tv))))))))))))) (by kernel_rfl) (.cons rfl (.of_eq (by rw [h57,h58,h59,h60,h61,h62]; try rfl)) .nil)
          ·rcases bt ((((Bn p0 (Int.toNat k1)) : Nat) : Int) == 95) with h63 | h63
           ·exact RT hnt (nn 5 (pT :: nn 6 (pT :: pF :: nn 6 (pT :: pF :: nn 3 (pF :: .no :: sk 2 (pT :: .no :: [])))))) [(57,pB false)] (an3 h57 (an3 h58 (an2 h59 (an h58 (an h59 (an h58 (an3 h60 (an2 h61 (an h60 (an h61 (an h60 (an3 h62 (an3 h63 tv))))))))))))) (by kernel_rfl) (.cons rfl (.of_eq (by rw [h57,h58,h59,h60,h61,h62,h63]; try rfl)) .nil)
           ·exact RT hnt (nn 5 (pT :: nn 6 (pT :: pF :: nn 6 (pT :: pF :: nn 3 (pF :: nn 3 (pF :: .no :: [])))))) [(Adc p0 k1)] (an3 h57 (an3 h58 (an2 h59 (an h58 (an h59 (an h58 (an3 h60 (an2 h61 (an h60 (an h61 (an h60 (an3 h62 (an3 h63 tv))))))))))))) (by kernel_rfl) (.cons rfl (.of_eq (by rw [h57,h58,h59,h60,h61,h62,h63]; try rfl)) .nil)
         ·rcases bt ((((Bn p0 (Int.toNat k1)) : Nat) : Int) == 95) with h64 | h64
          ·exact RT hnt (nn 5 (pT :: nn 6 (pT :: pF :: nn 4 (sk 2 (pF :: pF :: nn 3 (pF :: .no :: sk 2 (pT :: .no :: []))))))) [(57,pB false)] (an3 h57 (an3 h58 (an2 h59 (an h58 (an h59 (an h58 (an3 h60 (an2 h61 (an h60 (an h61 (an h60 (an3 ff (an3 h64 tv))))))))))))) (by kernel_rfl) (.cons rfl (.of_eq (by rw [h57,h58,h59,h60,h61,h64]; try rfl)) .nil)
          ·exact RT hnt (nn 5 (pT :: nn 6 (pT :: pF :: nn 4 (sk 2 (pF :: pF :: nn 3 (pF :: nn 3 (pF :: .no :: []))))))) [(Adc p0 k1)] (an3 h57 (an3 h58 (an2 h59 (an h58 (an h59 (an h58 (an3 h60 (an2 h61 (an h60 (an h61 (an h60 (an3 ff (an3 h64 tv))))))))))))) (by kernel_rfl) (.cons rfl (.of_eq (by rw [h57,h58,h59,h60,h61,h64]; try rfl)) .nil)
       ·rcases bt (decide ((((Bn p0 (Int.toNat k1)) : Nat) : Int) ≥ 48)) with h65 | h65
        ·rcases bt (decide ((((Bn p0 (Int.toNat k1)) : Nat) : Int) ≤ 57)) with h66 | h66
         ·exact RT hnt (nn 5 (pT :: nn 4 (sk 2 (pF :: pF :: nn 6 (pT :: pF :: .no :: sk 2 (pT :: .no :: sk 2 (pT :: .no :: []))))))) [(57,pB false)] (an3 h57 (an3 h58 (an2 h59 (an h58 (an h59 (an h58 (an3 ff (an2 h65 (an ff (an h65 (an ff (an3 h66 (an3 tt tv))))))))))))) (by kernel_rfl) (.cons rfl (.of_eq (by rw [h57,h58,h59,h65,h66]; try rfl)) .nil)
         ·rcases bt ((((Bn p0 (Int.toNat k1)) : Nat) : Int) == 95) with h67 | h67
          ·exact RT hnt (nn 5 (pT :: nn 4 (sk 2 (pF :: pF :: nn 6 (pT :: pF :: nn 3 (pF :: .no :: sk 2 (pT :: .no :: []))))))) [(57,pB false)] (an3 h57 (an3 h58 (an2 h59 (an h58 (an h59 (an h58 (an3 ff (an2 h65 (an ff (an h65 (an ff (an3 h66 (an3 h67 tv))))))))))))) (by kernel_rfl) (.cons rfl (.of_eq (by rw [h57,h58,h59,h65,h66,h67]; try rfl)) .nil)
          ·exact RT hnt (nn 5 (pT :: nn 4 (sk 2 (pF :: pF :: nn 6 (pT :: pF :: nn 3 (pF :: nn 3 (pF :: .no :: []))))))) [(Adc p0 k1)] (an3 h57 (an3 h58 (an2 h59 (an h58 (an h59 (an h58 (an3 ff (an2 h65 (an ff (an h65 (an ff (an3 h66 (an3 h67 tv))))))))))))) (by kernel_rfl) (.cons rfl (.of_eq (by rw [h57,h58,h59,h65,h66,h67]; try rfl)) .nil)
        ·rcases bt ((((Bn p0 (Int.toNat k1)) : Nat) : Int) == 95) with h68 | h68
         ·exact RT hnt (nn 5 (pT :: nn 4 (sk 2 (pF :: pF :: nn 4 (sk 2 (pF :: pF :: nn 3 (pF :: .no :: sk 2 (pT :: .no :: [])))))))) [(57,pB false)] (an3 h57 (an3 h58 (an2 h59 (an h58 (an h59 (an h58 (an3 ff (an2 h65 (an ff (an h65 (an4 ff (an3 h68 tv)))))))))))) (by kernel_rfl) (.cons rfl (.of_eq (by rw [h57,h58,h59,h65,h68]; try rfl)) .nil)
         ·exact RT hnt (nn 5 (pT :: nn 4 (sk 2 (pF :: pF :: nn 4 (sk 2 (pF :: pF :: nn 3 (pF :: nn 3 (pF :: .no :: [])))))))) [(Adc p0 k1)] (an3 h57 (an3 h58 (an2 h59 (an h58 (an h59 (an h58 (an3 ff (an2 h65 (an ff (an h65 (an4 ff (an3 h68 tv)))))))))))) (by kernel_rfl) (.cons rfl (.of_eq (by rw [h57,h58,h59,h65,h68]; try rfl)) .nil)
     ·rcases bt (decide ((((Bn p0 (Int.toNat k1)) : Nat) : Int) ≥ 65)) with h69 | h69
      ·rcases bt (decide ((((Bn p0 (Int.toNat k1)) : Nat) : Int) ≤ 90)) with h70 | h70
       ·exact RT hnt (nn 3 (sk 2 (pF :: nn 6 (pT :: pF :: .no :: sk 6 (pT :: .no :: sk 2 (pT :: .no :: sk 2 (pT :: .no :: []))))))) [(57,pB false)] (an3 h57 (an3 ff (an2 h69 (an ff (an h69 (an ff (an5 h70 (an6 tt tv)))))))) (by kernel_rfl) (.cons rfl (.of_eq (by rw [h57,h69,h70]; try rfl)) .nil)
       ·rcases bt (decide ((((Bn p0 (Int.toNat k1)) : Nat) : Int) ≥ 48)) with h71 | h71
        ·rcases bt (decide ((((Bn p0 (Int.toNat k1)) : Nat) : Int) ≤ 57)) with h72 | h72
         ·exact RT hnt (nn 3 (sk 2 (pF :: nn 6 (pT :: pF :: nn 6 (pT :: pF :: .no :: sk 2 (pT :: .no :: sk 2 (pT :: .no :: []))))))) [(57,pB false)] (an3 h57 (an3 ff (an2 h69 (an ff (an h69 (an ff (an3 h70 (an2 h71 (an h70 (an h71 (an h70 (an3 h72 (an3 tt tv))))))))))))) (by kernel_rfl) (.cons rfl (.of_eq (by rw [h57,h69,h70,h71,h72]; try rfl)) .nil)
         ·rcases bt ((((Bn p0 (Int.toNat k1)) : Nat) : Int) == 95) with h73 | h73
          ·exact RT hnt (nn 3 (sk 2 (pF :: nn 6 (pT :: pF :: nn 6 (pT :: pF :: nn 3 (pF :: .no :: sk 2 (pT :: .no :: []))))))) [(57,pB false)] (an3 h57 (an3 ff (an2 h69 (an ff (an h69 (an ff (an3 h70 (an2 h71 (an h70 (an h71 (an h70 (an3 h72 (an3 h73 tv))))))))))))) (by kernel_rfl) (.cons rfl (.of_eq (by rw [h57,h69,h70,h71,h72,h73]; try rfl)) .nil)
          ·exact RT hnt (nn 3 (sk 2 (pF :: nn 6 (pT :: pF :: nn 6 (pT :: pF :: nn 3 (pF :: nn 3 (pF :: .no :: []))))))) [(Adc p0 k1)] (an3 h57 (an3 ff (an2 h69 (an ff (an h69 (an ff (an3 h70 (an2 h71 (an h70 (an h71 (an h70 (an3 h72 (an3 h73 tv))))))))))))) (by kernel_rfl) (.cons rfl (.of_eq (by rw [h57,h69,h70,h71,h72,h73]; try rfl)) .nil)
        ·rcases bt ((((Bn p0 (Int.toNat k1)) : Nat) : Int) == 95) with h74 | h74
         ·exact RT hnt (nn 3 (sk 2 (pF :: nn 6 (pT :: pF :: nn 4 (sk 2 (pF :: pF :: nn 3 (pF :: .no :: sk 2 (pT :: .no :: [])))))))) [(57,pB false)] (an3 h57 (an3 ff (an2 h69 (an ff (an h69 (an ff (an3 h70 (an2 h71 (an h70 (an h71 (an h70 (an3 ff (an3 h74 tv))))))))))))) (by kernel_rfl) (.cons rfl (.of_eq (by rw [h57,h69,h70,h71,h74]; try rfl)) .nil)
         ·exact RT hnt (nn 3 (sk 2 (pF :: nn 6 (pT :: pF :: nn 4 (sk 2 (pF :: pF :: nn 3 (pF :: nn 3 (pF :: .no :: [])))))))) [(Adc p0 k1)] (an3 h57 (an3 ff (an2 h69 (an ff (an h69 (an ff (an3 h70 (an2 h71 (an h70 (an h71 (an h70 (an3 ff (an3 h74 tv))))))))))))) (by kernel_rfl) (.cons rfl (.of_eq (by rw [h57,h69,h70,h71,h74]; try rfl)) .nil)
      ·rcases bt (decide ((((Bn p0 (Int.toNat k1)) : Nat) : Int) ≥ 48)) with h75 | h75
       ·rcases bt (decide ((((Bn p0 (Int.toNat k1)) : Nat) : Int) ≤ 57)) with h76 | h76
        ·exact RT hnt (nn 3 (sk 2 (pF :: nn 4 (sk 2 (pF :: pF :: nn 6 (pT :: pF :: .no :: sk 2 (pT :: .no :: sk 2 (pT :: .no :: [])))))))) [(57,pB false)] (an3 h57 (an3 ff (an2 h69 (an ff (an h69 (an4 ff (an2 h75 (an ff (an h75 (an ff (an3 h76 (an3 tt tv)))))))))))) (by kernel_rfl) (.cons rfl (.of_eq (by rw [h57,h69,h75,h76]; try rfl)) .nil)
        ·rcases bt ((((Bn p0 (Int.toNat k1)) : Nat) : Int) == 95) with h77 | h77
         ·exact RT hnt (nn 3 (sk 2 (pF :: nn 4 (sk 2 (pF :: pF :: nn 6 (pT :: pF :: nn 3 (pF :: .no :: sk 2 (pT :: .no :: [])))))))) [(57,pB false)] (an3 h57 (an3 ff (an2 h69 (an ff (an h69 (an4 ff (an2 h75 (an ff (an h75 (an ff (an3 h76 (an3 h77 tv)))))))))))) (by kernel_rfl) (.cons rfl (.of_eq (by rw [h57,h69,h75,h76,h77]; try rfl)) .nil)
         ·exact RT hnt (nn 3 (sk 2 (pF :: nn 4 (sk 2 (pF :: pF :: nn 6 (pT :: pF :: nn 3 (pF :: nn 3 (pF :: .no :: [])))))))) [(Adc p0 k1)] (an3 h57 (an3 ff (an2 h69 (an ff (an h69 (an4 ff (an2 h75 (an ff (an h75 (an ff (an3 h76 (an3 h77 tv)))))))))))) (by kernel_rfl) (.cons rfl (.of_eq (by rw [h57,h69,h75,h76,h77]; try rfl)) .nil)
       ·rcases bt ((((Bn p0 (Int.toNat k1)) : Nat) : Int) == 95) with h78 | h78
        ·exact RT hnt (nn 3 (sk 2 (pF :: nn 4 (sk 2 (pF :: pF :: nn 4 (sk 2 (pF :: pF :: nn 3 (pF :: .no :: sk 2 (pT :: .no :: []))))))))) [(57,pB false)] (an3 h57 (an3 ff (an2 h69 (an ff (an h69 (an4 ff (an2 h75 (an ff (an h75 (an4 ff (an3 h78 tv))))))))))) (by kernel_rfl) (.cons rfl (.of_eq (by rw [h57,h69,h75,h78]; try rfl)) .nil)
        ·exact RT hnt (nn 3 (sk 2 (pF :: nn 4 (sk 2 (pF :: pF :: nn 4 (sk 2 (pF :: pF :: nn 3 (pF :: nn 3 (pF :: .no :: []))))))))) [(Adc p0 k1)] (an3 h57 (an3 ff (an2 h69 (an ff (an h69 (an4 ff (an2 h75 (an ff (an h75 (an4 ff (an3 h78 tv))))))))))) (by kernel_rfl) (.cons rfl (.of_eq (by rw [h57,h69,h75,h78]; try rfl)) .nil)
    ·refine Ag hm ?_ ?_
     ·intro h79 hm
      refine Sq (RK hnt (.no :: []) [(2,pB false)] [] tv ?_)
      obtain rfl := sj hm
      exact DW.ret (Ai [] [] (pB false))
     ·intro h79 hm
      refine Sk ?_
      refine DW.done ?_
      show DW _ _ _ _ _
      refine RK hnt (nn 3 []) [(0,pS p0),(3,pI (w64 (k1 + 1)))] [] tv ?_
      exact jD () ⟨hlt1,hm⟩ (Conv.tp [(3,pI (w64 (k1 + 1)))] [] (by kernel_rfl) (.cons rfl (.of_eq (congrArg pI (Su (lo := 0) (hi := ((p0.size : Nat) : Int)) (by omega) hk1 hlt1 (by omega)))) .nil) .nil)
   ·intro h55
    have hge1 : ¬ k1 < ((p0.size : Nat) : Int) := by have := of_decide_eq_false h55; omega
    have hm := he1 hge1
    unfold Aga at hm
    refine DW.exit ?_
    refine Ar ?_
    refine Au ?_
    refine Ap ?_
    show DW _ _ _ _ _
    refine Sq (RK hnt (.no :: []) [(2,pB true)] [] tv ?_)
    obtain rfl := sj hm
    exact DW.ret (Ai [] [] (pB true))
 ·rcases bt (((p0.size : Nat) : Int) == 0) with h1 | h1
  ·replace hm := Ba h1 hm
   refine RK hnt (nn 4 (sk 3 (pT :: .no :: sk 3 (pT :: [])))) [(0,pS p0),(17,pB true)] [] (an4 h1 (an4 tt tv)) ?_
   exact jD true hm .refl
  ·replace hm := Bb h1 hm
   rcases bt (decide (((p0.size : Nat) : Int) > 32)) with h2 | h2
   ·replace hm := Ba h2 hm
    refine RK hnt (nn 7 (pF :: .no :: sk 3 (pT :: []))) [(0,pS p0),(17,pB true)] [] (an4 h1 (an4 h2 tv)) ?_
    exact jD true hm .refl
   ·replace hm := Bb h2 hm
    obtain ⟨g3,hm⟩ := go1 hm
    refine RK hnt (nn 7 (pF :: nn 4 (pF :: []))) [(0,pS p0),(17,pB ((((Bn p0 0) : Nat) : Int) == 45))] [] (an4 h1 (an2 h2 (an (nn0 0) (an (ltc g3) (an2 h2 tv))))) ?_
    exact jD ((((Bn p0 0) : Nat) : Int) == 45) hm .refl
abbrev o12 (ks : List Nat) (b : Bool) (RES : Bool) : Orc := .call 118 ks b (pB RES) [] []

abbrev Ei (p0 : Af) (p1 : Int) := (p0.nodes.getD (Int.toNat p1) As)
abbrev Ahb (p0 : Af) (p1 : Int) : Nat × Obj := (1040,bx (pm (Ak (Ei p0 p1))))
abbrev Aha (p0 : Af) : Nat × Obj := (1016,bx (pm (Aj p0)))
abbrev c11e4 (p0 : Af) (k1 : Int) := (p0.nodes.getD (Int.toNat k1) As)
theorem AkF (p0 : Af) (p1 : Int) (RES : Bool) (hm : AaK p0 p1 = some RES) : Spec Tryz.prog 115 [.p (.agg (Aj p0)),pI p1] [] (pB RES) [] [] := by
 unfold AaK at hm
 refine SO Tryz.func115 rfl rfl [(0,.p (.agg (Aj p0))),(1,pI p1)] [] ?_
 intro cx hnt
 refine Sq (RK hnt (nn 2 []) [(1,pI p1),(2,rr 1016)] [(Aha p0)] tv ?_)
 obtain ⟨g1,hm⟩ := go1 hm
 refine Sq (RD hnt (nn 7 []) [] [(5,rr 1040)] [] [(Ahb p0 p1)] (an g1.1 (an g1.2 tv)) ?_)
 refine Sq (Sq (DW.regJ (sl2 := [(1,pI p1),(2,rr 1016),(5,rr 1040),(40,pB (((((((Ei p0 p1).kind != 0) && ((Ei p0 p1).kind != 1)) || (decide ((Ei p0 p1).control < 0))) || (decide ((Ei p0 p1).control > 31))) || (decide ((Ei p0 p1).owner < 0))) || (decide ((Ei p0 p1).owner > 1048576))))]) (ob2 := [(Aha p0),(Ahb p0 p1)]) ?_ ?_))
 ·rcases bt ((Ei p0 p1).kind != 0) with h2 | h2
  ·rcases bt ((Ei p0 p1).kind != 1) with h3 | h3
   ·exact RT hnt (nn 7 (pT :: .no :: sk 3 (pT :: .no :: sk 3 (pT :: .no :: sk 3 (pT :: .no :: sk 3 (pT :: [])))))) [(40,pB true)] (an4 h2 (an4 h3 (an6 tt (an6 tt tv)))) (by kernel_rfl) (.cons rfl (.of_eq (by rw [h2,h3]; try rfl)) .nil)
   ·rcases bt (decide ((Ei p0 p1).control < 0)) with h4 | h4
    ·exact RT hnt (nn 7 (pT :: nn 4 (pF :: .no :: sk 3 (pT :: .no :: sk 3 (pT :: .no :: sk 3 (pT :: [])))))) [(40,pB true)] (an4 h2 (an4 h3 (an4 h4 (an2 tt (an6 tt tv))))) (by kernel_rfl) (.cons rfl (.of_eq (by rw [h2,h3,h4]; try rfl)) .nil)
    ·rcases bt (decide ((Ei p0 p1).control > 31)) with h5 | h5
     ·exact RT hnt (nn 7 (pT :: nn 4 (pF :: nn 4 (pF :: .no :: sk 3 (pT :: .no :: sk 3 (pT :: [])))))) [(40,pB true)] (an4 h2 (an4 h3 (an4 h4 (an4 h5 (an4 tt tv))))) (by kernel_rfl) (.cons rfl (.of_eq (by rw [h2,h3,h4,h5]; try rfl)) .nil)
     ·rcases bt (decide ((Ei p0 p1).owner < 0)) with h6 | h6
      ·exact RT hnt (nn 7 (pT :: nn 4 (pF :: nn 4 (pF :: nn 4 (pF :: .no :: sk 3 (pT :: [])))))) [(40,pB true)] (an4 h2 (an4 h3 (an4 h4 (an4 h5 (an4 h6 tv))))) (by kernel_rfl) (.cons rfl (.of_eq (by rw [h2,h3,h4,h5,h6]; try rfl)) .nil)
      ·exact RT hnt (nn 7 (pT :: nn 4 (pF :: nn 4 (pF :: nn 4 (pF :: nn 4 (pF :: [])))))) [(40,pB (decide ((Ei p0 p1).owner > 1048576)))] (an4 h2 (an4 h3 (an4 h4 (an4 h5 (an4 h6 tv))))) (by kernel_rfl) (.cons rfl (.of_eq (by rw [h2,h3,h4,h5,h6]; try rfl)) .nil)
  ·rcases bt (decide ((Ei p0 p1).control < 0)) with h7 | h7
   ·exact RT hnt (nn 4 (sk 3 (pF :: nn 4 (pF :: .no :: sk 3 (pT :: .no :: sk 3 (pT :: .no :: sk 3 (pT :: []))))))) [(40,pB true)] (an4 h2 (an4 ff (an4 h7 (an2 tt (an6 tt tv))))) (by kernel_rfl) (.cons rfl (.of_eq (by rw [h2,h7]; try rfl)) .nil)
   ·rcases bt (decide ((Ei p0 p1).control > 31)) with h8 | h8
    ·exact RT hnt (nn 4 (sk 3 (pF :: nn 4 (pF :: nn 4 (pF :: .no :: sk 3 (pT :: .no :: sk 3 (pT :: []))))))) [(40,pB true)] (an4 h2 (an4 ff (an4 h7 (an4 h8 (an4 tt tv))))) (by kernel_rfl) (.cons rfl (.of_eq (by rw [h2,h7,h8]; try rfl)) .nil)
    ·rcases bt (decide ((Ei p0 p1).owner < 0)) with h9 | h9
     ·exact RT hnt (nn 4 (sk 3 (pF :: nn 4 (pF :: nn 4 (pF :: nn 4 (pF :: .no :: sk 3 (pT :: []))))))) [(40,pB true)] (an4 h2 (an4 ff (an4 h7 (an4 h8 (an4 h9 tv))))) (by kernel_rfl) (.cons rfl (.of_eq (by rw [h2,h7,h8,h9]; try rfl)) .nil)
     ·exact RT hnt (nn 4 (sk 3 (pF :: nn 4 (pF :: nn 4 (pF :: nn 4 (pF :: nn 4 (pF :: []))))))) [(40,pB (decide ((Ei p0 p1).owner > 1048576)))] (an4 h2 (an4 ff (an4 h7 (an4 h8 (an4 h9 tv))))) (by kernel_rfl) (.cons rfl (.of_eq (by rw [h2,h7,h8,h9]; try rfl)) .nil)
 ·refine Ag hm ?_ ?_
  ·intro h10 hm
   refine Sq (RK hnt (.no :: []) [(4,pB false)] [] tv ?_)
   obtain rfl := sj hm
   exact DW.ret (Ai [] [] (pB false))
  ·intro h10 hm
   refine Sk ?_
   refine Sq (Sq (RD hnt (nn 2 []) [40] [(42,pB (p1 == 0))] [] [] tv ?_))
   refine Ag hm ?_ ?_
   ·intro h11 hm
    refine Sq (DW.regJ (sl2 := [(4,pB (((((Ei p0 p1).id == 1) && ((Ei p0 p1).parent == 0)) && (Cz (Ei p0 p1).name ByteArray.empty)) && ((Ei p0 p1).kind == 0)))]) (ob2 := []) ?_ ?_)
    ·rcases bt ((Ei p0 p1).id == 1) with h12 | h12
     ·rcases bt ((Ei p0 p1).parent == 0) with h13 | h13
      ·rcases bt (Cz (Ei p0 p1).name ByteArray.empty) with h14 | h14
       ·exact RT hnt (nn 7 (pT :: nn 4 (pT :: nn 4 (pT :: .no :: [])))) [(4,pB ((Ei p0 p1).kind == 0))] (an4 h12 (an4 h13 (an4 h14 tv))) (by kernel_rfl) (.cons rfl (.of_eq (by rw [h12,h13,h14]; try rfl)) .nil)
       ·exact RT hnt (nn 7 (pT :: nn 4 (pT :: .no :: sk 3 (pF :: .no :: [])))) [(4,pB false)] (an4 h12 (an4 h13 (an4 h14 tv))) (by kernel_rfl) (.cons rfl (.of_eq (by rw [h12,h13,h14]; try rfl)) .nil)
      ·exact RT hnt (nn 7 (pT :: .no :: sk 3 (pF :: .no :: sk 3 (pF :: .no :: [])))) [(4,pB false)] (an4 h12 (an4 h13 (an4 ff tv))) (by kernel_rfl) (.cons rfl (.of_eq (by rw [h12,h13]; try rfl)) .nil)
     ·exact RT hnt (nn 4 (sk 3 (pF :: .no :: sk 3 (pF :: .no :: sk 3 (pF :: .no :: []))))) [(4,pB false)] (an4 h12 (an2 ff (an6 ff tv))) (by kernel_rfl) (.cons rfl (.of_eq (by rw [h12]; try rfl)) .nil)
    ·refine DW.ret ?_
     obtain rfl := sj hm
     exact Ai [] [] (pB (((((Ei p0 p1).id == 1) && ((Ei p0 p1).parent == 0)) && (Cz (Ei p0 p1).name ByteArray.empty)) && ((Ei p0 p1).kind == 0)))
   ·intro h11 hm
    refine Sk ?_
    obtain ⟨g15,hm⟩ := go1 hm
    refine Sq (Sq ?_)
    refine Jn (ι := Bool) (fun (y1 : Bool) => Am [(1,pI p1),(2,rr 1016),(5,rr 1040),(76,pB y1)] [(Aha p0),(Ahb p0 p1)]) (fun y1 => (Wq p0 p1) y1 = some RES) ?_ ?_
    ·intro y1 hm
     unfold Wq at hm
     refine Ag hm ?_ ?_
     ·intro h18 hm
      refine Sq (RK hnt (.no :: []) [(4,pB false)] [] tv ?_)
      obtain rfl := sj hm
      exact DW.ret (Ai [] [] (pB false))
     ·intro h18 hm
      refine Sk ?_
      refine Sq (RD hnt (.no :: []) [76] [(6,pB false)] [] [] tv ?_)
      refine Sq (Sq (RD hnt (.no :: []) [] [(7,pI 0)] [] [] tv ?_))
      refine Bk ?_
      obtain ⟨hc1,hm⟩ := go1 hm
      refine DW.forO (fun (k1 : Int) (s1 : Bool) => Am [(1,pI p1),(2,rr 1016),(5,rr 1040),(6,pB s1),(7,pI k1)] [(Aha p0),(Ahb p0 p1)]) (lo := 0) (hi := p1) hm Conv.eqK ?_
      intro k1 s1 n1 hk1 hs1 he1
      refine Sq (Sq (RD hnt (nn 3 []) [] [(79,pB (decide (k1 < p1)))] [] [] tv ?_))
      refine Bx (decide (k1 < p1)) ?_ ?_
      ·intro h32
       have hlt1 : k1 < p1 := by have := of_decide_eq_true h32; omega
       have hm := hs1 hlt1
       unfold Ady at hm
       refine Sk ?_
       refine Sq (Bk ?_)
       refine Sq ?_
       refine Jn (ι := Bool) (fun (y5 : Bool) => Am [(1,pI p1),(2,rr 1016),(5,rr 1040),(6,pB y5),(7,pI k1)] [(Aha p0),(Ahb p0 p1)]) (fun y5 => (Ta p0 p1 k1 n1) y5 = some RES) ?_ ?_
       ·intro y5 hm
        unfold Ta at hm
        obtain ⟨g35,hm⟩ := go1 hm
        refine Sq ?_
        refine Jn (ι := Bool) (fun (y6 : Bool) => Am [(1,pI p1),(2,rr 1016),(5,rr 1040),(6,pB y5),(7,pI k1),(113,pB y6)] [(Aha p0),(Ahb p0 p1)]) (fun y6 => (Sw n1 y5) y6 = some RES) ?_ ?_
        ·intro y6 hm
         unfold Sw at hm
         refine Ag hm ?_ ?_
         ·intro h38 hm
          refine Sq (RK hnt (.no :: []) [(4,pB false)] [] tv ?_)
          obtain rfl := sj hm
          exact DW.ret (Ai [] [] (pB false))
         ·intro h38 hm
          refine Sk ?_
          refine DW.done ?_
          show DW _ _ _ _ _
          refine RD hnt (nn 3 []) [113] [(7,pI (w64 (k1 + 1)))] [] [] tv ?_
          exact jD y5 ⟨hlt1,hm⟩ (Conv.tp [(7,pI (w64 (k1 + 1)))] [] (by kernel_rfl) (.cons rfl (.of_eq (congrArg pI (Su (lo := 0) (hi := p1) (by omega) hk1 hlt1 (by omega)))) .nil) .nil)
        ·rcases bt ((c11e4 p0 k1).parent == (Ei p0 p1).parent) with h36 | h36
         ·replace hm := Ba h36 hm
          obtain ⟨g37,hm⟩ := go1 hm
          refine RD hnt (nn 19 (pT :: [])) [] [(113,pB (Cz (c11e4 p0 k1).name (Ei p0 p1).name))] [] [] (an g35.1 (an g35.2 (an4 h36 (an g37.1 (an g37.2 (an6 h36 tv)))))) ?_
          exact jD (Cz (c11e4 p0 k1).name (Ei p0 p1).name) hm Conv.eqK
         ·replace hm := Bb h36 hm
          refine RD hnt (nn 10 (sk 9 (pF :: []))) [] [(113,pB false)] [] [] (an g35.1 (an g35.2 (an4 h36 (an6 h36 tv)))) ?_
          exact jD false hm Conv.eqK
       ·rcases bt s1 with h33 | h33
        ·replace hm := Ba h33 hm
         refine RD hnt (nn 2 (sk 9 (pT :: .no :: []))) [79] [(6,pB true)] [] [] (an4 h33 (an6 h33 tv)) ?_
         exact jD true hm Conv.eqK
        ·replace hm := Bb h33 hm
         obtain ⟨g34,hm⟩ := go1 hm
         refine RD hnt (nn 11 (pF :: .no :: [])) [79] [(6,pB ((c11e4 p0 k1).id == (Ei p0 p1).parent))] [] [] (an4 h33 (an g34.1 (an g34.2 (an6 h33 tv)))) ?_
         exact jD ((c11e4 p0 k1).id == (Ei p0 p1).parent) hm Conv.eqK
      ·intro h32
       have hge1 : ¬ k1 < p1 := by have := of_decide_eq_false h32; omega
       have hm := he1 hge1
       unfold Ahr at hm
       refine DW.exit ?_
       refine Ar ?_
       refine Au ?_
       refine Ap ?_
       show DW _ _ _ _ _
       refine Sq (RK hnt (nn 2 []) [(4,pB s1)] [] tv ?_)
       obtain rfl := sj hm
       exact DW.ret (Ai [] [] (pB s1))
    ·rcases bt (decide ((Ei p0 p1).id ≤ (p0.nodes.getD (Int.toNat (w64 (p1 - 1))) As).id)) with h16 | h16
     ·replace hm := Ba h16 hm
      refine RD hnt (nn 11 (sk 4 (pT :: []))) [42] [(76,pB true)] [] [] (an g15.1 (an g15.2 (an5 h16 tv))) ?_
      exact jD true hm Conv.eqK
     ·replace hm := Bb h16 hm
      obtain ⟨r17,hr17,hm⟩ := bo hm
      refine RD hnt (nn 13 (o12 [] true r17 :: .no :: pF :: [])) [42] [(76,pB (!r17))] [] [] (an g15.1 (an g15.2 (an3 h16 (an (Aek (Ei p0 p1).name r17 hr17) (an2 h16 tv))))) ?_
      exact jD (!r17) hm Conv.eqK
abbrev o11 (ks : List Nat) (b : Bool) (RES : Bool) : Orc := .call 115 ks b (pB RES) [] []

theorem Ahw (p0 : Af) (p1 : Int) (RES : List Int) (hm : AbG p0 p1 = some RES) : Spec Tryz.prog 116 [.p (.agg (Aj p0)),pI p1] [] (ow 0 RES.length) [] [roI RES] := by
 unfold AbG at hm
 refine SO Tryz.func116 rfl rfl [(0,.p (.agg (Aj p0))),(1,pI p1)] [] ?_
 intro cx hnt
 refine Sq (RK hnt (nn 2 []) [(1,pI p1),(2,rr 1016)] [(1016,bx (pm (Aj p0)))] tv ?_)
 refine Sq (RD hnt (.no :: []) [] [(5,.p (.sl .nil 0 0 (fun _ => [])))] [] [] tv ?_)
 refine Sq (Sq (RD hnt (nn 5 []) [] [(6,pI (w64 (((p0.nodes.length : Nat) : Int) - 1)))] [] [] tv ?_))
 refine Bk ?_
 refine DW.whileO (fun (s1 : (List Int) × Int × Int) => Am [(1,pI s1.2.1),(2,rr 1016),(5,ow 1208 s1.1.length),(6,pI s1.2.2)] [(1016,bx (pm (Aj p0))),(1208,ob0 (roI s1.1))]) hm (Conv.ads [(.s 5,1208,1,elems Bw 0 [])]) ?_
 intro s1 n1 hm
 unfold AfI at hm
 refine Sq (Sq (RD hnt (nn 2 []) [] [(12,pB (decide (s1.2.2 ≥ 0)))] [] [] tv ?_))
 refine Ag hm ?_ ?_
 ·intro h5 hm
  refine Sk ?_
  refine Sq ?_
  refine Jn (ι := (List Int) × Int) (fun (y2 : (List Int) × Int) => Am [(1,pI y2.2),(2,rr 1016),(5,ow 1208 y2.1.length),(6,pI s1.2.2)] [(1016,bx (pm (Aj p0))),(1208,ob0 (roI y2.1))]) (fun y2 => (Xn s1 n1) y2 = some RES) ?_ ?_
  ·intro y2 hm
   unfold Xn at hm
   refine RD hnt (nn 3 []) [] [(6,pI (w64 (s1.2.2 - 1)))] [] [] tv ?_
   exact jD (y2.1,y2.2,(w64 (s1.2.2 - 1))) hm Conv.eqK
  ·refine Bk ?_
   obtain ⟨g6,hm⟩ := go1 hm
   refine Sq (RD hnt (nn 8 []) [12] [(22,pB ((p0.nodes.getD (Int.toNat s1.2.2) As).id == s1.2.1))] [] [] (an g6.1 (an g6.2 tv)) ?_)
   refine Ag hm ?_ ?_
   ·intro h7 hm
    obtain ⟨g8,hm⟩ := go1 hm
    refine Sq (RN hnt (nn 5 []) [(2,rr 1016),(5,ow 1208 (s1.1 ++ [s1.2.1]).length),(6,pI s1.2.2)] [(1016,bx (pm (Aj p0))),(1208,ob0 (roI (s1.1 ++ [s1.2.1])))] [(5,ow 1208 (s1.1.length + 1))] [(1208,.row 1 (s1.1.length + 1) (Dw s1.1.length (elI s1.1) (cut 1 [vi s1.2.1])))] (an (by omega : (s1.1.length + 1) * 8 ≤ 140737488355328) tv) (by kernel_rfl) (.cons rfl (MLe.ownLen (enc := Bw) (d := 0) (f := (Dw s1.1.length (elI s1.1) (cut 1 [vi s1.2.1]))) (RowIs.cat RowIs.elems (RowIs.lit (enc := Bw) (d := 0) (n := 1) (f := (cut 1 [vi s1.2.1])) [s1.2.1] rfl (fun | 0,_ => rfl | n + 1,h => absurd h (by omega))))) .nil) (.cons rfl (BLe.typed (RowIs.cat RowIs.elems (RowIs.lit (enc := Bw) (d := 0) (n := 1) (f := (cut 1 [vi s1.2.1])) [s1.2.1] rfl (fun | 0,_ => rfl | n + 1,h => absurd h (by omega))))) .nil) ?_)
    obtain ⟨g9,hm⟩ := go1 hm
    refine RD hnt (nn 7 []) [] [(1,pI (p0.nodes.getD (Int.toNat s1.2.2) As).parent)] [] [] (an g9.1 (an g9.2 tv)) ?_
    exact bD ((s1.1 ++ [s1.2.1]),(p0.nodes.getD (Int.toNat s1.2.2) As).parent) hm Conv.eqK
   ·intro h7 hm
    refine Sk ?_
    exact bD (s1.1,s1.2.1) hm Conv.t0
 ·intro h5 hm
  refine DW.exit ?_
  refine Ar ?_
  refine Au ?_
  refine Ap ?_
  show DW _ _ _ _ _
  refine Sq (RK hnt (nn 2 []) [(4,ow 1208 s1.1.length)] [(1208,ob0 (roI s1.1))] tv ?_)
  obtain rfl := sj hm
  exact DW.ret (Ai [roI s1.1] [1208] (ow 0 s1.1.length))
abbrev o13 (ks : List Nat) (b : Bool) (RES : List Int) : Orc := .call 116 ks b (ow 0 RES.length) [] [roI RES]

abbrev c10e1 (p0 : Af) : Nat × MV := (3,pI ((p0.nodes.length : Nat) : Int))
theorem Gd (p0 : Af) (RES : Bool) (hm : Kw p0 = some RES) : Spec Tryz.prog 69 [.p (.agg (Aj p0))] [] (pB RES) [] [] := by
 unfold Kw at hm
 refine SO Tryz.func69 rfl rfl [(0,.p (.agg (Aj p0)))] [] ?_
 intro cx hnt
 refine Sq (RK hnt (nn 2 []) [(1,rr 1008)] [(1008,bx (pm (Aj p0)))] tv ?_)
 refine Sq (RD hnt (nn 4 []) [] [(c10e1 p0)] [] [] tv ?_)
 refine Sq (Sq (DW.regJ (sl2 := [(1,rr 1008),(c10e1 p0),(14,pB ((decide (((p0.nodes.length : Nat) : Int) < 1)) || (decide (((p0.nodes.length : Nat) : Int) > 64))))]) (ob2 := [(1008,bx (pm (Aj p0)))]) ?_ ?_))
 ·rcases bt (decide (((p0.nodes.length : Nat) : Int) < 1)) with h1 | h1
  ·exact RT hnt (nn 3 (sk 2 (pT :: []))) [(14,pB true)] (an3 h1 tv) (by kernel_rfl) (.cons rfl (.of_eq (by rw [h1]; try rfl)) .nil)
  ·exact RT hnt (nn 5 (pF :: [])) [(14,pB (decide (((p0.nodes.length : Nat) : Int) > 64)))] (an3 h1 tv) (by kernel_rfl) (.cons rfl (.of_eq (by rw [h1]; try rfl)) .nil)
 ·refine Ag hm ?_ ?_
  ·intro h2 hm
   refine Sq (RK hnt (.no :: []) [(2,pB false)] [] tv ?_)
   obtain rfl := sj hm
   exact DW.ret (Ai [] [] (pB false))
  ·intro h2 hm
   refine Sk ?_
   refine Sq (Sq (RD hnt (.no :: []) [14] [(4,pI 0)] [] [] tv ?_))
   refine Bk ?_
   obtain ⟨hc1,hm⟩ := go1 hm
   refine DW.rangeO (fun (k1 : Nat) (s1 : Unit) => Am [(1,rr 1008),(c10e1 p0),(4,pI ((k1 : Nat) : Int))] [(1008,bx (pm (Aj p0)))]) As hm Conv.eqK ?_
   intro k1 s1 n1 hk1 hs1 he1
   refine Sq (Sq (RD hnt (nn 3 []) [] [(17,pB (decide (((k1 : Nat) : Int) < ((p0.nodes.length : Nat) : Int))))] [] [] tv ?_))
   refine Bx (decide (((k1 : Nat) : Int) < ((p0.nodes.length : Nat) : Int))) ?_ ?_
   ·intro h32
    have hlt1 : k1 < p0.nodes.length := by have := of_decide_eq_true h32; omega
    have hm := hs1 hlt1
    unfold Ack at hm
    refine Sk ?_
    refine Sq (Bk ?_)
    obtain ⟨r33,hr33,hm⟩ := bo hm
    refine Sq (RD hnt (nn 2 (o11 [] true r33 :: .no :: [])) [17] [(23,pB (!r33))] [] [] (an (AkF p0 ((k1 : Nat) : Int) r33 hr33) tv) ?_)
    refine Ag hm ?_ ?_
    ·intro h34 hm
     refine Sq (RK hnt (.no :: []) [(2,pB false)] [] tv ?_)
     obtain rfl := sj hm
     exact DW.ret (Ai [] [] (pB false))
    ·intro h34 hm
     refine Sk ?_
     refine DW.done ?_
     show DW _ _ _ _ _
     refine RD hnt (nn 3 []) [23] [(4,pI (w64 (((k1 : Nat) : Int) + 1)))] [] [] tv ?_
     exact jD () ⟨hlt1,hm⟩ (Conv.tp [(4,pI (w64 (((k1 : Nat) : Int) + 1)))] [] (by kernel_rfl) (.cons rfl (.of_eq (congrArg pI (Bl hlt1 hc1))) .nil) .nil)
   ·intro h32
    have hge1 : ¬ k1 < p0.nodes.length := by have := of_decide_eq_false h32; omega
    have hm := he1 hge1
    unfold Acw at hm
    refine DW.exit ?_
    refine Ar ?_
    refine Au ?_
    refine Ap ?_
    show DW _ _ _ _ _
    refine Sq (Sq (RD hnt (.no :: []) [4,17] [(5,pI 0)] [] [] tv ?_))
    refine Bk ?_
    obtain ⟨hc4,hm⟩ := go1 hm
    refine DW.rangeO (fun (k4 : Nat) (s4 : Unit) => Am [(1,rr 1008),(c10e1 p0),(5,pI ((k4 : Nat) : Int))] [(1008,bx (pm (Aj p0)))]) As hm Conv.eqK ?_
    intro k4 s4 n4 hk4 hs4 he4
    refine Sq (Sq (RD hnt (nn 3 []) [] [(26,pB (decide (((k4 : Nat) : Int) < ((p0.nodes.length : Nat) : Int))))] [] [] tv ?_))
    refine Bx (decide (((k4 : Nat) : Int) < ((p0.nodes.length : Nat) : Int))) ?_ ?_
    ·intro h49
     have hlt4 : k4 < p0.nodes.length := by have := of_decide_eq_true h49; omega
     have hm := hs4 hlt4
     unfold Acm at hm
     refine Sk ?_
     refine Sq (Bk ?_)
     obtain ⟨r50,hr50,hm⟩ := bo hm
     refine Sq (RD hnt (nn 7 (o13 [] true r50 :: nn 2 [])) [26] [(38,pB (decide (((r50.length : Nat) : Int) > 9)))] [] [] (an (nn0 k4) (an (ltc hlt4) (an (Ahw p0 (p0.nodes.getD k4 (default : Ah)).id r50 hr50) tv))) ?_)
     refine Ag hm ?_ ?_
     ·intro h51 hm
      refine Sq (RK hnt (.no :: []) [(2,pB false)] [] tv ?_)
      obtain rfl := sj hm
      exact DW.ret (Ai [] [] (pB false))
     ·intro h51 hm
      refine Sk ?_
      refine DW.done ?_
      show DW _ _ _ _ _
      refine RD hnt (nn 3 []) [38] [(5,pI (w64 (((k4 : Nat) : Int) + 1)))] [] [] tv ?_
      exact jD () ⟨hlt4,hm⟩ (Conv.tp [(5,pI (w64 (((k4 : Nat) : Int) + 1)))] [] (by kernel_rfl) (.cons rfl (.of_eq (congrArg pI (Bl hlt4 hc4))) .nil) .nil)
    ·intro h49
     have hge4 : ¬ k4 < p0.nodes.length := by have := of_decide_eq_false h49; omega
     have hm := he4 hge4
     unfold AcB at hm
     refine DW.exit ?_
     refine Ar ?_
     refine Au ?_
     refine Ap ?_
     show DW _ _ _ _ _
     obtain ⟨g52,hm⟩ := go1 hm
     refine Sq ?_
     refine Jn (ι := Bool) (fun (y7 : Bool) => Am [(2,pB y7)] []) (fun y7 => Ug y7 = some RES) ?_ ?_
     ·intro y7 hm
      unfold Ug at hm
      obtain rfl := sj hm
      exact DW.ret (Ai [] [] (pB y7))
     ·rcases bt (decide (p0.next > (p0.nodes.getD (Int.toNat (w64 (((p0.nodes.length : Nat) : Int) - 1))) As).id)) with h53 | h53
      ·replace hm := Ba h53 hm
       refine RK hnt (nn 14 (pT :: .no :: [])) [(2,pB (decide (p0.next ≤ 2147483648)))] [] (an g52.1 (an g52.2 (an4 h53 tv))) ?_
       exact jD (decide (p0.next ≤ 2147483648)) hm .refl
      ·replace hm := Bb h53 hm
       refine RK hnt (nn 11 (sk 3 (pF :: .no :: []))) [(2,pB false)] [] (an g52.1 (an g52.2 (an4 h53 tv))) ?_
       exact jD false hm .refl
abbrev o10 (ks : List Nat) (b : Bool) (RES : Bool) : Orc := .call 69 ks b (pB RES) [] []

theorem AiK (p0 : List An) (p1 : Int) (RES : An × Bool) (hm : Wg p0 p1 = some RES) : Spec Tryz.prog 117 [.p (Dh p0),pI p1] [] (.p (.tup [.agg (Ao RES.1),vb RES.2])) [] [] := by
 unfold Wg at hm
 refine SO Tryz.func117 rfl rfl [(0,.p (Dh p0)),(1,pI p1)] [] ?_
 intro cx hnt
 refine Sq (RD hnt (nn 2 []) [] [(4,rr 1032)] [] [(1032,bx [pI 0,pI 0,pI 0,pI 0])] tv ?_)
 refine Sq (Sq (RD hnt (.no :: []) [] [(6,pI 0)] [] [] tv ?_))
 refine Bk ?_
 obtain ⟨hc1,hm⟩ := go1 hm
 refine DW.rangeO (fun (k1 : Nat) (s1 : Unit) => Am [(0,.p (Dh p0)),(1,pI p1),(4,rr 1032),(6,pI ((k1 : Nat) : Int))] [(1032,bx [pI 0,pI 0,pI 0,pI 0])]) Ax hm Conv.eqK ?_
 intro k1 s1 n1 hk1 hs1 he1
 refine Sq (Sq (RD hnt (nn 4 []) [] [(10,pB (decide (((k1 : Nat) : Int) < ((p0.length : Nat) : Int))))] [] [] tv ?_))
 refine Bx (decide (((k1 : Nat) : Int) < ((p0.length : Nat) : Int))) ?_ ?_
 ·intro h11
  have hlt1 : k1 < p0.length := by have := of_decide_eq_true h11; omega
  have hm := hs1 hlt1
  unfold Afm at hm
  refine Sk ?_
  refine Sq (Bk ?_)
  refine Sq (RD hnt (nn 7 []) [10] [(19,pB ((p0.getD k1 (default : An)).id == p1))] [] [] (an (nn0 k1) (an (ltc hlt1) tv)) ?_)
  refine Ag hm ?_ ?_
  ·intro h12 hm
   refine Sq (RK hnt (nn 13 []) [(4,rr 1032),(5,pB ((p0.getD k1 (default : An)).process == p1))] [(1032,bx (pm (Ao (p0.getD k1 (default : An)))))] (an (nn0 k1) (an (ltc hlt1) (an (nn0 k1) (an (ltc hlt1) tv)))) ?_)
   obtain rfl := sj hm
   exact DW.ret (Ai [] [] (.p (.tup [.agg (Ao (p0.getD k1 (default : An))),vb ((p0.getD k1 (default : An)).process == p1)])))
  ·intro h12 hm
   refine Sk ?_
   refine DW.done ?_
   show DW _ _ _ _ _
   refine RD hnt (nn 3 []) [19] [(6,pI (w64 (((k1 : Nat) : Int) + 1)))] [] [] tv ?_
   exact jD () ⟨hlt1,hm⟩ (Conv.tp [(6,pI (w64 (((k1 : Nat) : Int) + 1)))] [] (by kernel_rfl) (.cons rfl (.of_eq (congrArg pI (Bl hlt1 hc1))) .nil) .nil)
 ·intro h11
  have hge1 : ¬ k1 < p0.length := by have := of_decide_eq_false h11; omega
  have hm := he1 hge1
  unfold Afk at hm
  refine DW.exit ?_
  refine Ar ?_
  refine Au ?_
  refine Ap ?_
  show DW _ _ _ _ _
  refine Sq (RD hnt (nn 3 []) [0,1,6,10] [(5,pB false)] [] [] tv ?_)
  obtain rfl := sj hm
  exact DW.ret (Ai [] [] (.p (.tup [.agg [vi 0,vi 0,vi 0,vi 0],vb false])))
abbrev o14 (ks : List Nat) (b : Bool) (RES : An × Bool) : Orc := .call 117 ks b (.p (.tup [.agg (Ao RES.1),vb RES.2])) [] []

theorem Cu (p0 : Af) (p1 : Int) (RES : Ah × Bool) (hm : Cw p0 p1 = some RES) : Spec Tryz.prog 24 [.p (.agg (Aj p0)),pI p1] [] (.p (.tup [.agg (Ak RES.1),vb RES.2])) [] [] := by
 unfold Cw at hm
 refine SO Tryz.func24 rfl rfl [(0,.p (.agg (Aj p0))),(1,pI p1)] [] ?_
 intro cx hnt
 refine Sq (RK hnt (nn 3 []) [(1,pI p1),(2,rr 1016),(4,rr 1032)] [(1016,bx (pm (Aj p0))),(1032,bx [pI 0,pI 0,pS ByteArray.empty,pI 0,pI 0,pI 0])] tv ?_)
 obtain ⟨r1,hr1,hm⟩ := bo hm
 refine Sq (Sq (RD hnt (.no :: o10 [] true r1 :: .no :: []) [] [(9,pB (!r1))] [] [] (an (Gd p0 r1 hr1) tv) ?_))
 refine Ag hm ?_ ?_
 ·intro h2 hm
  refine Sq (RD hnt (nn 3 []) [1,2,9] [(5,pB false)] [1016] [] tv ?_)
  obtain rfl := sj hm
  exact DW.ret (Ai [] [] (.p (.tup [.agg [vi 0,vi 0,vs ByteArray.empty,vi 0,vi 0,vi 0],vb false])))
 ·intro h2 hm
  refine Sk ?_
  refine Sq (Sq (RD hnt (.no :: []) [9] [(6,pI 0)] [] [] tv ?_))
  refine Bk ?_
  obtain ⟨hc1,hm⟩ := go1 hm
  refine DW.rangeO (fun (k1 : Nat) (s1 : Unit) => Am [(1,pI p1),(2,rr 1016),(4,rr 1032),(6,pI ((k1 : Nat) : Int))] [(1016,bx (pm (Aj p0))),(1032,bx [pI 0,pI 0,pS ByteArray.empty,pI 0,pI 0,pI 0])]) As hm Conv.eqK ?_
  intro k1 s1 n1 hk1 hs1 he1
  refine Sq (Sq (RD hnt (nn 5 []) [] [(15,pB (decide (((k1 : Nat) : Int) < ((p0.nodes.length : Nat) : Int))))] [] [] tv ?_))
  refine Bx (decide (((k1 : Nat) : Int) < ((p0.nodes.length : Nat) : Int))) ?_ ?_
  ·intro h11
   have hlt1 : k1 < p0.nodes.length := by have := of_decide_eq_true h11; omega
   have hm := hs1 hlt1
   unfold Ahs at hm
   refine Sk ?_
   refine Sq (Bk ?_)
   refine Sq (RD hnt (nn 8 []) [15] [(25,pB ((p0.nodes.getD k1 (default : Ah)).id == p1))] [] [] (an (nn0 k1) (an (ltc hlt1) tv)) ?_)
   refine Ag hm ?_ ?_
   ·intro h12 hm
    refine Sq (RK hnt (nn 7 []) [(4,rr 1032),(5,pB true)] [(1032,bx (pm (Ak (p0.nodes.getD k1 (default : Ah)))))] (an (nn0 k1) (an (ltc hlt1) tv)) ?_)
    obtain rfl := sj hm
    exact DW.ret (Ai [] [] (.p (.tup [.agg (Ak (p0.nodes.getD k1 (default : Ah))),vb true])))
   ·intro h12 hm
    refine Sk ?_
    refine DW.done ?_
    show DW _ _ _ _ _
    refine RD hnt (nn 3 []) [25] [(6,pI (w64 (((k1 : Nat) : Int) + 1)))] [] [] tv ?_
    exact jD () ⟨hlt1,hm⟩ (Conv.tp [(6,pI (w64 (((k1 : Nat) : Int) + 1)))] [] (by kernel_rfl) (.cons rfl (.of_eq (congrArg pI (Bl hlt1 hc1))) .nil) .nil)
  ·intro h11
   have hge1 : ¬ k1 < p0.nodes.length := by have := of_decide_eq_false h11; omega
   have hm := he1 hge1
   unfold AhD at hm
   refine DW.exit ?_
   refine Ar ?_
   refine Au ?_
   refine Ap ?_
   show DW _ _ _ _ _
   refine Sq (RD hnt (nn 3 []) [1,2,6,15] [(5,pB false)] [1016] [] tv ?_)
   obtain rfl := sj hm
   exact DW.ret (Ai [] [] (.p (.tup [.agg [vi 0,vi 0,vs ByteArray.empty,vi 0,vi 0,vi 0],vb false])))
abbrev o16 (ks : List Nat) (b : Bool) (RES : Ah × Bool) : Orc := .call 24 ks b (.p (.tup [.agg (Ak RES.1),vb RES.2])) [] []

theorem Cf (p0 : Af) (p1 : Int) (RES : Bool) (hm : Ej p0 p1 = some RES) : Spec Tryz.prog 78 [.p (.agg (Aj p0)),pI p1] [] (pB RES) [] [] := by
 unfold Ej at hm
 refine SO Tryz.func78 rfl rfl [(0,.p (.agg (Aj p0))),(1,pI p1)] [] ?_
 intro cx hnt
 refine Sq (RK hnt (nn 2 []) [(1,pI p1),(2,rr 1016)] [(1016,bx (pm (Aj p0)))] tv ?_)
 obtain ⟨r1,hr1,hm⟩ := bo hm
 refine Sq (RK hnt (nn 2 (o16 [] true r1 :: nn 6 [])) [(6,pB r1.2)] [] (an (Cu p0 p1 r1 hr1) tv) ?_)
 refine Sq (RK hnt (nn 2 []) [(4,pB r1.2)] [] tv ?_)
 obtain rfl := sj hm
 exact DW.ret (Ai [] [] (pB r1.2))
abbrev o15 (ks : List Nat) (b : Bool) (RES : Bool) : Orc := .call 78 ks b (pB RES) [] []

abbrev Ol (p0 : Aa) (k1 : Nat) := (p0.tasks.getD k1 (default : An))
abbrev c9e2 (p0 : Aa) : Nat × MV := (3,pI ((p0.tasks.length : Nat) : Int))
theorem Fc (p0 : Aa) (RES : Bool) (hm : Fv p0 = some RES) : Spec Tryz.prog 71 [.p (.agg (Ab p0))] [] (pB RES) [] [] := by
 unfold Fv at hm
 refine SO Tryz.func71 rfl rfl [(0,.p (.agg (Ab p0)))] [] ?_
 intro cx hnt
 refine Sq (RK hnt (nn 2 []) [(1,rr 1008)] [(1008,bx (pm (Ab p0)))] tv ?_)
 refine Sq (RD hnt (nn 4 []) [] [(c9e2 p0)] [] [] tv ?_)
 obtain ⟨r1,hr1,hm⟩ := bo hm
 refine Sq (Sq ?_)
 refine Jn (ι := Bool) (fun (y1 : Bool) => Am [(1,rr 1008),(c9e2 p0),(44,pB y1)] [(1008,bx (pm (Ab p0)))]) (fun y1 => (Jw p0) y1 = some RES) ?_ ?_
 ·intro y1 hm
  unfold Jw at hm
  refine Ag hm ?_ ?_
  ·intro h8 hm
   refine Sq (RK hnt (.no :: []) [(2,pB false)] [] tv ?_)
   obtain rfl := sj hm
   exact DW.ret (Ai [] [] (pB false))
  ·intro h8 hm
   refine Sk ?_
   refine Sq (Sq (RD hnt (.no :: []) [44] [(4,pI 0)] [] [] tv ?_))
   refine Bk ?_
   obtain ⟨hc1,hm⟩ := go1 hm
   refine DW.rangeO (fun (k1 : Nat) (s1 : Unit) => Am [(1,rr 1008),(c9e2 p0),(4,pI ((k1 : Nat) : Int))] [(1008,bx (pm (Ab p0)))]) Ax hm Conv.eqK ?_
   intro k1 s1 n1 hk1 hs1 he1
   refine Sq (Sq (RD hnt (nn 3 []) [] [(47,pB (decide (((k1 : Nat) : Int) < ((p0.tasks.length : Nat) : Int))))] [] [] tv ?_))
   refine Bx (decide (((k1 : Nat) : Int) < ((p0.tasks.length : Nat) : Int))) ?_ ?_
   ·intro h45
    have hlt1 : k1 < p0.tasks.length := by have := of_decide_eq_true h45; omega
    have hm := hs1 hlt1
    unfold Yo at hm
    refine Sk ?_
    refine Sq (Bk ?_)
    refine Sq (RD hnt (nn 7 []) [47] [(5,rr 1040)] [] [(1040,bx (pm (Ao (Ol p0 k1))))] (an (nn0 k1) (an (ltc hlt1) tv)) ?_)
    obtain ⟨r46,hr46,hm⟩ := bo hm
    refine Sq (RD hnt (nn 4 (o14 [] true r46 :: nn 6 [])) [] [(6,rr 1048),(7,pB r46.2)] [] [(1048,bx (pm (Ao r46.1)))] (an (AiK p0.tasks (Ol p0 k1).process r46 hr46) tv) ?_)
    refine Sq ?_
    refine Jn (ι := Bool) (fun (y4 : Bool) => Am [(1,rr 1008),(c9e2 p0),(4,pI ((k1 : Nat) : Int)),(110,pB y4)] [(1008,bx (pm (Ab p0)))]) (fun y4 => (Cd n1) y4 = some RES) ?_ ?_
    ·intro y4 hm
     unfold Cd at hm
     refine Ag hm ?_ ?_
     ·intro h61 hm
      refine Sq (RK hnt (.no :: []) [(2,pB false)] [] tv ?_)
      obtain rfl := sj hm
      exact DW.ret (Ai [] [] (pB false))
     ·intro h61 hm
      refine Sk ?_
      refine DW.done ?_
      show DW _ _ _ _ _
      refine RD hnt (nn 3 []) [110] [(4,pI (w64 (((k1 : Nat) : Int) + 1)))] [] [] tv ?_
      exact jD () ⟨hlt1,hm⟩ (Conv.tp [(4,pI (w64 (((k1 : Nat) : Int) + 1)))] [] (by kernel_rfl) (.cons rfl (.of_eq (congrArg pI (Bl hlt1 hc1))) .nil) .nil)
    ·rcases bt (decide ((Ol p0 k1).id < 1)) with h47 | h47
     ·replace hm := Ba h47 hm
      refine RD hnt (nn 4 (sk 14 (pT :: .no :: sk 6 (pT :: .no :: sk 3 (pT :: .no :: sk 3 (pT :: .no :: sk 2 (pT :: .no :: sk 5 (pT :: [])))))))) [5,6,7] [(110,pB true)] [1040,1048] [] (an5 h47 (an6 tt (an6 tt (an6 tt (an6 tt tv))))) ?_
      exact jD true hm Conv.eqK
     ·replace hm := Bb h47 hm
      rcases bt (decide (((k1 : Nat) : Int) > 0)) with h48 | h48
      ·replace hm := Ba h48 hm
       obtain ⟨g49,hm⟩ := go1 hm
       rcases bt (decide ((p0.tasks.getD (Int.toNat (w64 (((k1 : Nat) : Int) - 1))) Ax).id ≥ (Ol p0 k1).id)) with h50 | h50
       ·replace hm := Ba h50 hm
        refine RD hnt (nn 17 (pT :: pF :: .no :: sk 6 (pT :: .no :: sk 3 (pT :: .no :: sk 3 (pT :: .no :: sk 2 (pT :: .no :: sk 5 (pT :: []))))))) [5,6,7] [(110,pB true)] [1040,1048] [] (an3 h47 (an5 h48 (an g49.1 (an g49.2 (an5 h48 (an h47 (an h48 (an h47 (an h50 (an6 h50 (an5 tt (an6 tt (an6 tt tv))))))))))))) ?_
        exact jD true hm Conv.eqK
       ·replace hm := Bb h50 hm
        obtain ⟨r51,hr51,hm⟩ := bo hm
        rcases bt (!r51) with h52 | h52
        ·replace hm := Ba h52 hm
         refine RD hnt (nn 17 (pT :: pF :: nn 5 (o15 [] true r51 :: .no :: pF :: .no :: sk 3 (pT :: .no :: sk 3 (pT :: .no :: sk 2 (pT :: .no :: sk 5 (pT :: []))))))) [5,6,7] [(110,pB true)] [1040,1048] [] (an3 h47 (an5 h48 (an g49.1 (an g49.2 (an5 h48 (an h47 (an h48 (an h47 (an5 h50 (an (Cf p0.tree (Ol p0 k1).group r51 hr51) (an2 h50 (an4 h52 (an tt (an6 tt (an6 tt tv))))))))))))))) ?_
         exact jD true hm Conv.eqK
        ·replace hm := Bb h52 hm
         rcases bt (decide ((Ol p0 k1).user < 0)) with h53 | h53
         ·replace hm := Ba h53 hm
          refine RD hnt (nn 17 (pT :: pF :: nn 5 (o15 [] true r51 :: .no :: pF :: nn 4 (pF :: .no :: sk 3 (pT :: .no :: sk 2 (pT :: .no :: sk 5 (pT :: []))))))) [5,6,7] [(110,pB true)] [1040,1048] [] (an3 h47 (an5 h48 (an g49.1 (an g49.2 (an5 h48 (an h47 (an h48 (an h47 (an5 h50 (an (Cf p0.tree (Ol p0 k1).group r51 hr51) (an2 h50 (an4 h52 (an4 h53 (an3 tt (an6 tt tv))))))))))))))) ?_
          exact jD true hm Conv.eqK
         ·replace hm := Bb h53 hm
          rcases bt (decide ((Ol p0 k1).user > 1048576)) with h54 | h54
          ·replace hm := Ba h54 hm
           refine RD hnt (nn 17 (pT :: pF :: nn 5 (o15 [] true r51 :: .no :: pF :: nn 4 (pF :: nn 4 (pF :: .no :: sk 2 (pT :: .no :: sk 5 (pT :: []))))))) [5,6,7] [(110,pB true)] [1040,1048] [] (an3 h47 (an5 h48 (an g49.1 (an g49.2 (an5 h48 (an h47 (an h48 (an h47 (an5 h50 (an (Cf p0.tree (Ol p0 k1).group r51 hr51) (an2 h50 (an4 h52 (an4 h53 (an3 h54 (an6 tt tv))))))))))))))) ?_
           exact jD true hm Conv.eqK
          ·replace hm := Bb h54 hm
           rcases bt (!r46.2) with h55 | h55
           ·replace hm := Ba h55 hm
            refine RD hnt (nn 17 (pT :: pF :: nn 5 (o15 [] true r51 :: .no :: pF :: nn 4 (pF :: nn 4 (pF :: nn 3 (pF :: .no :: sk 5 (pT :: []))))))) [5,6,7] [(110,pB true)] [1040,1048] [] (an3 h47 (an5 h48 (an g49.1 (an g49.2 (an5 h48 (an h47 (an h48 (an h47 (an5 h50 (an (Cf p0.tree (Ol p0 k1).group r51 hr51) (an2 h50 (an4 h52 (an4 h53 (an3 h54 (an6 h55 tv))))))))))))))) ?_
            exact jD true hm Conv.eqK
           ·replace hm := Bb h55 hm
            refine RD hnt (nn 17 (pT :: pF :: nn 5 (o15 [] true r51 :: .no :: pF :: nn 4 (pF :: nn 4 (pF :: nn 3 (pF :: nn 6 (pF :: []))))))) [5,6,7] [(110,pB (r46.1.user != (Ol p0 k1).user))] [1040,1048] [] (an3 h47 (an5 h48 (an g49.1 (an g49.2 (an5 h48 (an h47 (an h48 (an h47 (an5 h50 (an (Cf p0.tree (Ol p0 k1).group r51 hr51) (an2 h50 (an4 h52 (an4 h53 (an3 h54 (an6 h55 tv))))))))))))))) ?_
            exact jD (r46.1.user != (Ol p0 k1).user) hm Conv.eqK
      ·replace hm := Bb h48 hm
       obtain ⟨r56,hr56,hm⟩ := bo hm
       rcases bt (!r56) with h57 | h57
       ·replace hm := Ba h57 hm
        refine RD hnt (nn 7 (sk 10 (pF :: pF :: nn 5 (o15 [] true r56 :: .no :: pF :: .no :: sk 3 (pT :: .no :: sk 3 (pT :: .no :: sk 2 (pT :: .no :: sk 5 (pT :: [])))))))) [5,6,7] [(110,pB true)] [1040,1048] [] (an3 h47 (an4 h48 (an6 h48 (an h47 (an h48 (an h47 (an5 ff (an (Cf p0.tree (Ol p0 k1).group r56 hr56) (an2 ff (an4 h57 (an tt (an6 tt (an6 tt tv))))))))))))) ?_
        exact jD true hm Conv.eqK
       ·replace hm := Bb h57 hm
        rcases bt (decide ((Ol p0 k1).user < 0)) with h58 | h58
        ·replace hm := Ba h58 hm
         refine RD hnt (nn 7 (sk 10 (pF :: pF :: nn 5 (o15 [] true r56 :: .no :: pF :: nn 4 (pF :: .no :: sk 3 (pT :: .no :: sk 2 (pT :: .no :: sk 5 (pT :: [])))))))) [5,6,7] [(110,pB true)] [1040,1048] [] (an3 h47 (an4 h48 (an6 h48 (an h47 (an h48 (an h47 (an5 ff (an (Cf p0.tree (Ol p0 k1).group r56 hr56) (an2 ff (an4 h57 (an4 h58 (an3 tt (an6 tt tv))))))))))))) ?_
         exact jD true hm Conv.eqK
        ·replace hm := Bb h58 hm
         rcases bt (decide ((Ol p0 k1).user > 1048576)) with h59 | h59
         ·replace hm := Ba h59 hm
          refine RD hnt (nn 7 (sk 10 (pF :: pF :: nn 5 (o15 [] true r56 :: .no :: pF :: nn 4 (pF :: nn 4 (pF :: .no :: sk 2 (pT :: .no :: sk 5 (pT :: [])))))))) [5,6,7] [(110,pB true)] [1040,1048] [] (an3 h47 (an4 h48 (an6 h48 (an h47 (an h48 (an h47 (an5 ff (an (Cf p0.tree (Ol p0 k1).group r56 hr56) (an2 ff (an4 h57 (an4 h58 (an3 h59 (an6 tt tv))))))))))))) ?_
          exact jD true hm Conv.eqK
         ·replace hm := Bb h59 hm
          rcases bt (!r46.2) with h60 | h60
          ·replace hm := Ba h60 hm
           refine RD hnt (nn 7 (sk 10 (pF :: pF :: nn 5 (o15 [] true r56 :: .no :: pF :: nn 4 (pF :: nn 4 (pF :: nn 3 (pF :: .no :: sk 5 (pT :: [])))))))) [5,6,7] [(110,pB true)] [1040,1048] [] (an3 h47 (an4 h48 (an6 h48 (an h47 (an h48 (an h47 (an5 ff (an (Cf p0.tree (Ol p0 k1).group r56 hr56) (an2 ff (an4 h57 (an4 h58 (an3 h59 (an6 h60 tv))))))))))))) ?_
           exact jD true hm Conv.eqK
          ·replace hm := Bb h60 hm
           refine RD hnt (nn 7 (sk 10 (pF :: pF :: nn 5 (o15 [] true r56 :: .no :: pF :: nn 4 (pF :: nn 4 (pF :: nn 3 (pF :: nn 6 (pF :: [])))))))) [5,6,7] [(110,pB (r46.1.user != (Ol p0 k1).user))] [1040,1048] [] (an3 h47 (an4 h48 (an6 h48 (an h47 (an h48 (an h47 (an5 ff (an (Cf p0.tree (Ol p0 k1).group r56 hr56) (an2 ff (an4 h57 (an4 h58 (an3 h59 (an6 h60 tv))))))))))))) ?_
           exact jD (r46.1.user != (Ol p0 k1).user) hm Conv.eqK
   ·intro h45
    have hge1 : ¬ k1 < p0.tasks.length := by have := of_decide_eq_false h45; omega
    have hm := he1 hge1
    unfold Acz at hm
    refine DW.exit ?_
    refine Ar ?_
    refine Au ?_
    refine Ap ?_
    show DW _ _ _ _ _
    refine Sq (RK hnt (.no :: []) [(2,pB true)] [] tv ?_)
    obtain rfl := sj hm
    exact DW.ret (Ai [] [] (pB true))
 ·rcases bt (!r1) with h2 | h2
  ·replace hm := Ba h2 hm
   refine RD hnt (nn 2 (o10 [] true r1 :: nn 2 (sk 2 (pT :: .no :: sk 3 (pT :: .no :: sk 3 (pT :: .no :: sk 14 (pT :: []))))))) [] [(44,pB true)] [] [] (an (Gd p0.tree r1 hr1) (an3 h2 (an tt (an6 tt (an6 tt tv))))) ?_
   exact jD true hm Conv.eqK
  ·replace hm := Bb h2 hm
   rcases bt (decide (((p0.tasks.length : Nat) : Int) > 128)) with h3 | h3
   ·replace hm := Ba h3 hm
    refine RD hnt (nn 2 (o10 [] true r1 :: nn 4 (pF :: .no :: sk 3 (pT :: .no :: sk 3 (pT :: .no :: sk 14 (pT :: [])))))) [] [(44,pB true)] [] [] (an (Gd p0.tree r1 hr1) (an3 h2 (an4 h3 (an3 tt (an6 tt tv))))) ?_
    exact jD true hm Conv.eqK
   ·replace hm := Bb h3 hm
    rcases bt (decide (p0.next < 1)) with h4 | h4
    ·replace hm := Ba h4 hm
     refine RD hnt (nn 2 (o10 [] true r1 :: nn 4 (pF :: nn 4 (pF :: .no :: sk 3 (pT :: .no :: sk 14 (pT :: [])))))) [] [(44,pB true)] [] [] (an (Gd p0.tree r1 hr1) (an3 h2 (an4 h3 (an4 h4 (an5 tt tv))))) ?_
     exact jD true hm Conv.eqK
    ·replace hm := Bb h4 hm
     rcases bt (decide (p0.next > 2147483648)) with h5 | h5
     ·replace hm := Ba h5 hm
      refine RD hnt (nn 2 (o10 [] true r1 :: nn 4 (pF :: nn 4 (pF :: nn 4 (pF :: .no :: sk 14 (pT :: [])))))) [] [(44,pB true)] [] [] (an (Gd p0.tree r1 hr1) (an3 h2 (an4 h3 (an4 h4 (an5 h5 tv))))) ?_
      exact jD true hm Conv.eqK
     ·replace hm := Bb h5 hm
      rcases bt (decide (((p0.tasks.length : Nat) : Int) > 0)) with h6 | h6
      ·replace hm := Ba h6 hm
       obtain ⟨g7,hm⟩ := go1 hm
       refine RD hnt (nn 2 (o10 [] true r1 :: nn 4 (pF :: nn 4 (pF :: nn 4 (pF :: nn 14 (pT :: pF :: [])))))) [] [(44,pB (decide (p0.next ≤ (p0.tasks.getD (Int.toNat (w64 (((p0.tasks.length : Nat) : Int) - 1))) Ax).id)))] [] [] (an (Gd p0.tree r1 hr1) (an3 h2 (an4 h3 (an4 h4 (an3 h5 (an h6 (an6 h6 (an g7.1 (an g7.2 (an3 h6 (an h5 (an h6 (an h5 tv))))))))))))) ?_
       exact jD (decide (p0.next ≤ (p0.tasks.getD (Int.toNat (w64 (((p0.tasks.length : Nat) : Int) - 1))) Ax).id)) hm Conv.eqK
      ·replace hm := Bb h6 hm
       refine RD hnt (nn 2 (o10 [] true r1 :: nn 4 (pF :: nn 4 (pF :: nn 4 (pF :: nn 4 (sk 10 (pF :: pF :: []))))))) [] [(44,pB false)] [] [] (an (Gd p0.tree r1 hr1) (an3 h2 (an4 h3 (an4 h4 (an3 h5 (an4 h6 (an6 h6 (an h5 (an h6 (an h5 tv)))))))))) ?_
       exact jD false hm Conv.eqK
abbrev o9 (ks : List Nat) (b : Bool) (RES : Bool) : Orc := .call 71 ks b (pB RES) [] []

theorem Ajk (p0 : Af) (p1 : Int) (RES : Int) (hm : Sv p0 p1 = some RES) : Spec Tryz.prog 145 [.p (.agg (Aj p0)),pI p1] [] (pI RES) [] [] := by
 unfold Sv at hm
 refine SO Tryz.func145 rfl rfl [(0,.p (.agg (Aj p0))),(1,pI p1)] [] ?_
 intro cx hnt
 refine Sq (RK hnt (nn 2 []) [(1,pI p1),(2,rr 1016)] [(1016,bx (pm (Aj p0)))] tv ?_)
 obtain ⟨r1,hr1,hm⟩ := bo hm
 refine Sq (RD hnt (nn 2 (o16 [] true r1 :: nn 6 [])) [] [(5,rr 1040),(6,pB r1.2)] [] [(1040,bx (pm (Ak r1.1)))] (an (Cu p0 p1 r1 hr1) tv) ?_)
 refine Sq (Sq (DW.regJ (sl2 := [(2,rr 1016),(5,rr 1040),(20,pB ((!r1.2) || (p1 == 1)))]) (ob2 := [(1016,bx (pm (Aj p0))),(1040,bx (pm (Ak r1.1)))]) ?_ ?_))
 ·rcases bt (!r1.2) with h2 | h2
  ·exact RT hnt (nn 3 (sk 2 (pT :: []))) [(20,pB true)] (an3 h2 tv) (by kernel_rfl) (.cons rfl (.of_eq (by rw [h2]; try rfl)) .nil)
  ·exact RT hnt (nn 5 (pF :: [])) [(20,pB (p1 == 1))] (an3 h2 tv) (by kernel_rfl) (.cons rfl (.of_eq (by rw [h2]; try rfl)) .nil)
 ·refine Ag hm ?_ ?_
  ·intro h3 hm
   refine Sq (RK hnt (.no :: []) [(4,pI 0)] [] tv ?_)
   obtain rfl := sj hm
   exact DW.ret (Ai [] [] (pI 0))
  ·intro h3 hm
   refine Sk ?_
   obtain ⟨r4,hr4,hm⟩ := bo hm
   refine Sq (RD hnt (nn 3 (o16 [] true r4 :: nn 6 [])) [2,20] [(7,rr 1056)] [1016] [(1056,bx (pm (Ak r4.1)))] (an (Cu p0 r1.1.parent r4 hr4) tv) ?_)
   refine Sq (Sq (RD hnt (nn 3 []) [5] [(30,pB (r1.1.kind == 1))] [1040] [] tv ?_))
   refine Ag hm ?_ ?_
   ·intro h5 hm
    refine Sq (RK hnt (nn 4 []) [(4,pI (Az .i64 r4.1.control 6))] [] tv ?_)
    obtain rfl := sj hm
    exact DW.ret (Ai [] [] (pI (Az .i64 r4.1.control 6)))
   ·intro h5 hm
    refine Sk ?_
    refine Sq (RK hnt (nn 3 []) [(4,pI r4.1.control)] [] tv ?_)
    obtain rfl := sj hm
    exact DW.ret (Ai [] [] (pI r4.1.control))
abbrev o18 (ks : List Nat) (b : Bool) (RES : Int) : Orc := .call 145 ks b (pI RES) [] []

theorem Lk (p0 : Af) (p1 : Int) (RES : Int) (hm : Iz p0 p1 = some RES) : Spec Tryz.prog 113 [.p (.agg (Aj p0)),pI p1] [] (pI RES) [] [] := by
 unfold Iz at hm
 refine SO Tryz.func113 rfl rfl [(0,.p (.agg (Aj p0))),(1,pI p1)] [] ?_
 intro cx hnt
 refine Sq (RK hnt (nn 2 []) [(1,pI p1),(2,rr 1016)] [(1016,bx (pm (Aj p0)))] tv ?_)
 obtain ⟨r1,hr1,hm⟩ := bo hm
 refine Sq (RD hnt (nn 2 (o16 [] true r1 :: nn 6 [])) [] [(5,rr 1040),(6,pB r1.2)] [] [(1040,bx (pm (Ak r1.1)))] (an (Cu p0 p1 r1 hr1) tv) ?_)
 refine Sq (Sq (RD hnt (nn 2 []) [6] [(15,pB (!r1.2))] [] [] tv ?_))
 refine Ag hm ?_ ?_
 ·intro h2 hm
  refine Sq (RK hnt (.no :: []) [(4,pI 0)] [] tv ?_)
  obtain rfl := sj hm
  exact DW.ret (Ai [] [] (pI 0))
 ·intro h2 hm
  refine Sk ?_
  refine Sq (RD hnt (.no :: []) [15] [(7,pI 31)] [] [] tv ?_)
  refine Sq (Sq (RD hnt (nn 2 []) [] [(17,pB (p1 != 1))] [] [] tv ?_))
  refine Jn (ι := Int) (fun (y1 : Int) => Am [(5,rr 1040),(7,pI y1)] [(1040,bx (pm (Ak r1.1)))]) (fun y1 => (Ii r1) y1 = some RES) ?_ ?_
  ·intro y1 hm
   unfold Ii at hm
   refine Sq (Sq (RK hnt (nn 3 []) [(7,pI y1),(23,pB (r1.1.kind == 1))] [] tv ?_))
   refine Jn (ι := Int) (fun (y2 : Int) => Am [(7,pI y2)] []) (fun y2 => Kt y2 = some RES) ?_ ?_
   ·intro y2 hm
    unfold Kt at hm
    refine Sq (RK hnt (nn 2 []) [(4,pI y2)] [] tv ?_)
    obtain rfl := sj hm
    exact DW.ret (Ai [] [] (pI y2))
   ·refine Ag hm ?_ ?_
    ·intro h5 hm
     refine RK hnt (nn 3 []) [(7,pI (Az .i64 y1 6))] [] tv ?_
     exact jD (Az .i64 y1 6) hm .refl
    ·intro h5 hm
     refine Sk ?_
     exact jD y1 hm Conv.t0
  ·refine Ag hm ?_ ?_
   ·intro h3 hm
    obtain ⟨r4,hr4,hm⟩ := bo hm
    refine RD hnt (nn 2 (o18 [] true r4 :: .no :: [])) [1,2,17] [(7,pI r4)] [1016] [] (an (Ajk p0 p1 r4 hr4) tv) ?_
    exact jD r4 hm Conv.eqK
   ·intro h3 hm
    refine Sk ?_
    exact jD 31 hm Conv.t0
abbrev o17 (ks : List Nat) (b : Bool) (RES : Int) : Orc := .call 113 ks b (pI RES) [] []

abbrev Aau (p0 : Aa) (k1 : Nat) := (p0.tasks.getD k1 (default : An))
theorem Nd (p0 : Aa) (p1 : Int) (RES : List Int) (hm : Ia p0 p1 = some RES) : Spec Tryz.prog 27 [.p (.agg (Ab p0)),pI p1] [] (ow 0 RES.length) [] [roI RES] := by
 unfold Ia at hm
 refine SO Tryz.func27 rfl rfl [(0,.p (.agg (Ab p0))),(1,pI p1)] [] ?_
 intro cx hnt
 refine Sq (RK hnt (nn 2 []) [(1,pI p1),(2,rr 1016)] [(1016,bx (pm (Ab p0)))] tv ?_)
 obtain ⟨r1,hr1,hm⟩ := bo hm
 refine Sq (Sq (RD hnt (.no :: o9 [] true r1 :: .no :: []) [] [(9,pB (!r1))] [] [] (an (Fc p0 r1 hr1) tv) ?_))
 refine Ag hm ?_ ?_
 ·intro h2 hm
  refine Sq (RK hnt (.no :: []) [(4,.p (.sl .nil 0 0 (fun _ => [])))] [] tv ?_)
  refine DW.cv [] [(4,ow 100000 0)] [] [(100000,ob0 (roI []))] (Conv.ads [(.s 4,100000,1,elems Bw 0 [])]) ?_
  obtain rfl := sj hm
  exact DW.ret (Ai [roI []] [100000] (ow 0 0))
 ·intro h2 hm
  refine Sk ?_
  refine Sq (RD hnt (.no :: []) [9] [(5,.p (.sl .nil 0 0 (fun _ => [])))] [] [] tv ?_)
  refine Sq (Sq (RD hnt (.no :: []) [] [(6,pI 0)] [] [] tv ?_))
  refine Bk ?_
  obtain ⟨hc1,hm⟩ := go1 hm
  refine DW.rangeO (fun (k1 : Nat) (s1 : List Int) => Am [(1,pI p1),(2,rr 1016),(5,ow 1264 s1.length),(6,pI ((k1 : Nat) : Int))] [(1016,bx (pm (Ab p0))),(1264,ob0 (roI s1))]) Ax hm (Conv.ads [(.s 5,1264,1,elems Bw 0 [])]) ?_
  intro k1 s1 n1 hk1 hs1 he1
  refine Sq (Sq (RD hnt (nn 5 []) [] [(14,pB (decide (((k1 : Nat) : Int) < ((p0.tasks.length : Nat) : Int))))] [] [] tv ?_))
  refine Bx (decide (((k1 : Nat) : Int) < ((p0.tasks.length : Nat) : Int))) ?_ ?_
  ·intro h12
   have hlt1 : k1 < p0.tasks.length := by have := of_decide_eq_true h12; omega
   have hm := hs1 hlt1
   unfold Aco at hm
   refine Sk ?_
   refine Sq ?_
   refine Jn (ι := List Int) (fun (y3 : List Int) => Am [(1,pI p1),(2,rr 1016),(5,ow 1264 y3.length),(6,pI ((k1 : Nat) : Int))] [(1016,bx (pm (Ab p0))),(1264,ob0 (roI y3))]) (fun y3 => (Ub n1) y3 = some RES) ?_ ?_
   ·intro y3 hm
    unfold Ub at hm
    refine RD hnt (nn 3 []) [] [(6,pI (w64 (((k1 : Nat) : Int) + 1)))] [] [] tv ?_
    exact jD y3 ⟨hlt1,hm⟩ (Conv.tp [(6,pI (w64 (((k1 : Nat) : Int) + 1)))] [] (by kernel_rfl) (.cons rfl (.of_eq (congrArg pI (Bl hlt1 hc1))) .nil) .nil)
   ·refine Bk ?_
    refine Sq (RD hnt (nn 8 []) [14] [(24,pB ((Aau p0 k1).group == p1))] [] [] (an (nn0 k1) (an (ltc hlt1) tv)) ?_)
    refine Ag hm ?_ ?_
    ·intro h13 hm
     obtain ⟨g14,hm⟩ := go1 hm
     refine RN hnt (nn 10 []) [(1,pI p1),(2,rr 1016),(5,ow 1264 (s1 ++ [(Aau p0 k1).id]).length),(6,pI ((k1 : Nat) : Int))] [(1016,bx (pm (Ab p0))),(1264,ob0 (roI (s1 ++ [(Aau p0 k1).id])))] [(5,ow 1264 (s1.length + 1))] [(1264,.row 1 (s1.length + 1) (Dw s1.length (elI s1) (cut 1 [vi (Aau p0 k1).id])))] (an (nn0 k1) (an (ltc hlt1) (an (by omega : (s1.length + 1) * 8 ≤ 140737488355328) tv))) (by kernel_rfl) (.cons rfl (MLe.ownLen (enc := Bw) (d := 0) (f := (Dw s1.length (elI s1) (cut 1 [vi (Aau p0 k1).id]))) (RowIs.cat RowIs.elems (RowIs.lit (enc := Bw) (d := 0) (n := 1) (f := (cut 1 [vi (Aau p0 k1).id])) [(Aau p0 k1).id] rfl (fun | 0,_ => rfl | n + 1,h => absurd h (by omega))))) .nil) (.cons rfl (BLe.typed (RowIs.cat RowIs.elems (RowIs.lit (enc := Bw) (d := 0) (n := 1) (f := (cut 1 [vi (Aau p0 k1).id])) [(Aau p0 k1).id] rfl (fun | 0,_ => rfl | n + 1,h => absurd h (by omega))))) .nil) ?_
     exact bD (s1 ++ [(Aau p0 k1).id]) hm .refl
    ·intro h13 hm
     refine Sk ?_
     exact bD s1 hm Conv.t0
  ·intro h12
   have hge1 : ¬ k1 < p0.tasks.length := by have := of_decide_eq_false h12; omega
   have hm := he1 hge1
   unfold Agm at hm
   refine DW.exit ?_
   refine Ar ?_
   refine Au ?_
   refine Ap ?_
   show DW _ _ _ _ _
   refine Sq (RK hnt (nn 2 []) [(4,ow 1264 s1.length)] [(1264,ob0 (roI s1))] tv ?_)
   obtain rfl := sj hm
   exact DW.ret (Ai [roI s1] [1264] (ow 0 s1.length))
abbrev o19 (ks : List Nat) (b : Bool) (RES : List Int) : Orc := .call 27 ks b (ow 0 RES.length) [] [roI RES]

abbrev c8e1 (p0 : Aa) (k1 : Nat) := (p0.tree.nodes.getD k1 (default : Ah))
theorem Qn (p0 : Aa) (RES : Bool) (hm : Mq p0 = some RES) : Spec Tryz.prog 65 [.p (.agg (Ab p0))] [] (pB RES) [] [] := by
 unfold Mq at hm
 refine SO Tryz.func65 rfl rfl [(0,.p (.agg (Ab p0)))] [] ?_
 intro cx hnt
 refine Sq (RK hnt (nn 2 []) [(1,rr 1008)] [(1008,bx (pm (Ab p0)))] tv ?_)
 obtain ⟨r1,hr1,hm⟩ := bo hm
 refine Sq (Sq (RD hnt (.no :: o9 [] true r1 :: .no :: []) [] [(7,pB (!r1))] [] [] (an (Fc p0 r1 hr1) tv) ?_))
 refine Ag hm ?_ ?_
 ·intro h2 hm
  refine Sq (RK hnt (.no :: []) [(2,pB false)] [] tv ?_)
  obtain rfl := sj hm
  exact DW.ret (Ai [] [] (pB false))
 ·intro h2 hm
  refine Sk ?_
  refine Sq (Sq (RD hnt (.no :: []) [7] [(3,pI 0)] [] [] tv ?_))
  refine Bk ?_
  obtain ⟨hc1,hm⟩ := go1 hm
  refine DW.rangeO (fun (k1 : Nat) (s1 : Unit) => Am [(1,rr 1008),(3,pI ((k1 : Nat) : Int))] [(1008,bx (pm (Ab p0)))]) As hm Conv.eqK ?_
  intro k1 s1 n1 hk1 hs1 he1
  refine Sq (Sq (RD hnt (nn 6 []) [] [(13,pB (decide (((k1 : Nat) : Int) < ((p0.tree.nodes.length : Nat) : Int))))] [] [] tv ?_))
  refine Bx (decide (((k1 : Nat) : Int) < ((p0.tree.nodes.length : Nat) : Int))) ?_ ?_
  ·intro h19
   have hlt1 : k1 < p0.tree.nodes.length := by have := of_decide_eq_true h19; omega
   have hm := hs1 hlt1
   unfold Zb at hm
   refine Sk ?_
   refine Sq (Bk ?_)
   refine Sq (RD hnt (nn 8 []) [13] [(4,rr 1032)] [] [(1032,bx (pm (Ak (c8e1 p0 k1))))] (an (nn0 k1) (an (ltc hlt1) tv)) ?_)
   obtain ⟨r20,hr20,hm⟩ := bo hm
   refine Sq ?_
   refine Jn (ι := Bool) (fun (y3 : Bool) => Am [(1,rr 1008),(3,pI ((k1 : Nat) : Int)),(49,pB y3)] [(1008,bx (pm (Ab p0)))]) (fun y3 => (Jq n1) y3 = some RES) ?_ ?_
   ·intro y3 hm
    unfold Jq at hm
    refine Ag hm ?_ ?_
    ·intro h25 hm
     refine Sq (RK hnt (.no :: []) [(2,pB false)] [] tv ?_)
     obtain rfl := sj hm
     exact DW.ret (Ai [] [] (pB false))
    ·intro h25 hm
     refine Sk ?_
     refine DW.done ?_
     show DW _ _ _ _ _
     refine RD hnt (nn 3 []) [49] [(3,pI (w64 (((k1 : Nat) : Int) + 1)))] [] [] tv ?_
     exact jD () ⟨hlt1,hm⟩ (Conv.tp [(3,pI (w64 (((k1 : Nat) : Int) + 1)))] [] (by kernel_rfl) (.cons rfl (.of_eq (congrArg pI (Bl hlt1 hc1))) .nil) .nil)
   ·rcases bt ((Az .i64 (c8e1 p0 k1).control r20) != 0) with h21 | h21
    ·replace hm := Ba h21 hm
     refine RD hnt (nn 6 (o17 [] true r20 :: nn 3 (sk 17 (pT :: [])))) [4] [(49,pB true)] [1032] [] (an (Lk p0.tree (c8e1 p0 k1).id r20 hr20) (an2 h21 (an6 h21 tv))) ?_
     exact jD true hm Conv.eqK
    ·replace hm := Bb h21 hm
     rcases bt ((c8e1 p0 k1).id != 1) with h22 | h22
     ·replace hm := Ba h22 hm
      rcases bt ((kand .i64 (c8e1 p0 k1).control 6) != 0) with h23 | h23
      ·replace hm := Ba h23 hm
       obtain ⟨r24,hr24,hm⟩ := bo hm
       refine RD hnt (nn 6 (o17 [] true r20 :: nn 11 (pT :: nn 4 (o19 [] true r24 :: nn 2 (pT :: pF :: []))))) [4] [(49,pB (decide (((r24.length : Nat) : Int) > 0)))] [1032] [] (an (Lk p0.tree (c8e1 p0 k1).id r20 hr20) (an4 h21 (an4 h22 (an h21 (an h22 (an h21 (an4 h23 (an (Nd p0 (c8e1 p0 k1).id r24 hr24) (an2 h23 (an h21 (an h23 (an h21 tv)))))))))))) ?_
       exact jD (decide (((r24.length : Nat) : Int) > 0)) hm Conv.eqK
      ·replace hm := Bb h23 hm
       refine RD hnt (nn 6 (o17 [] true r20 :: nn 11 (pT :: .no :: sk 6 (pF :: pF :: [])))) [4] [(49,pB false)] [1032] [] (an (Lk p0.tree (c8e1 p0 k1).id r20 hr20) (an4 h21 (an4 h22 (an h21 (an h22 (an h21 (an6 h23 (an h21 (an h23 (an h21 tv)))))))))) ?_
       exact jD false hm Conv.eqK
     ·replace hm := Bb h22 hm
      refine RD hnt (nn 6 (o17 [] true r20 :: nn 7 (sk 4 (pF :: .no :: sk 6 (pF :: pF :: []))))) [4] [(49,pB false)] [1032] [] (an (Lk p0.tree (c8e1 p0 k1).id r20 hr20) (an4 h21 (an4 h22 (an h21 (an h22 (an h21 (an6 ff (an h21 (an ff (an h21 tv)))))))))) ?_
      exact jD false hm Conv.eqK
  ·intro h19
   have hge1 : ¬ k1 < p0.tree.nodes.length := by have := of_decide_eq_false h19; omega
   have hm := he1 hge1
   unfold AfN at hm
   refine DW.exit ?_
   refine Ar ?_
   refine Au ?_
   refine Ap ?_
   show DW _ _ _ _ _
   refine Sq (RK hnt (.no :: []) [(2,pB true)] [] tv ?_)
   obtain rfl := sj hm
   exact DW.ret (Ai [] [] (pB true))
abbrev o8 (ks : List Nat) (b : Bool) (RES : Bool) : Orc := .call 65 ks b (pB RES) [] []

theorem Ih (p0 : Aa) (p1 : Int) (RES : An × Bool) (hm : Fr p0 p1 = some RES) : Spec Tryz.prog 66 [.p (.agg (Ab p0)),pI p1] [] (.p (.tup [.agg (Ao RES.1),vb RES.2])) [] [] := by
 unfold Fr at hm
 refine SO Tryz.func66 rfl rfl [(0,.p (.agg (Ab p0))),(1,pI p1)] [] ?_
 intro cx hnt
 refine Sq (RK hnt (nn 3 []) [(1,pI p1),(2,rr 1016),(4,rr 1032)] [(1016,bx (pm (Ab p0))),(1032,bx [pI 0,pI 0,pI 0,pI 0])] tv ?_)
 obtain ⟨r1,hr1,hm⟩ := bo hm
 refine Sq (Sq (RD hnt (.no :: o9 [] true r1 :: .no :: []) [] [(9,pB (!r1))] [] [] (an (Fc p0 r1 hr1) tv) ?_))
 refine Ag hm ?_ ?_
 ·intro h2 hm
  refine Sq (RD hnt (nn 3 []) [1,2,9] [(5,pB false)] [1016] [] tv ?_)
  obtain rfl := sj hm
  exact DW.ret (Ai [] [] (.p (.tup [.agg [vi 0,vi 0,vi 0,vi 0],vb false])))
 ·intro h2 hm
  refine Sk ?_
  refine Sq (Sq (RD hnt (.no :: []) [9] [(6,pI 0)] [] [] tv ?_))
  refine Bk ?_
  obtain ⟨hc1,hm⟩ := go1 hm
  refine DW.rangeO (fun (k1 : Nat) (s1 : Unit) => Am [(1,pI p1),(2,rr 1016),(4,rr 1032),(6,pI ((k1 : Nat) : Int))] [(1016,bx (pm (Ab p0))),(1032,bx [pI 0,pI 0,pI 0,pI 0])]) Ax hm Conv.eqK ?_
  intro k1 s1 n1 hk1 hs1 he1
  refine Sq (Sq (RD hnt (nn 5 []) [] [(15,pB (decide (((k1 : Nat) : Int) < ((p0.tasks.length : Nat) : Int))))] [] [] tv ?_))
  refine Bx (decide (((k1 : Nat) : Int) < ((p0.tasks.length : Nat) : Int))) ?_ ?_
  ·intro h11
   have hlt1 : k1 < p0.tasks.length := by have := of_decide_eq_true h11; omega
   have hm := hs1 hlt1
   unfold AhO at hm
   refine Sk ?_
   refine Sq (Bk ?_)
   refine Sq (RD hnt (nn 8 []) [15] [(25,pB ((p0.tasks.getD k1 (default : An)).id == p1))] [] [] (an (nn0 k1) (an (ltc hlt1) tv)) ?_)
   refine Ag hm ?_ ?_
   ·intro h12 hm
    refine Sq (RK hnt (nn 7 []) [(4,rr 1032),(5,pB true)] [(1032,bx (pm (Ao (p0.tasks.getD k1 (default : An)))))] (an (nn0 k1) (an (ltc hlt1) tv)) ?_)
    obtain rfl := sj hm
    exact DW.ret (Ai [] [] (.p (.tup [.agg (Ao (p0.tasks.getD k1 (default : An))),vb true])))
   ·intro h12 hm
    refine Sk ?_
    refine DW.done ?_
    show DW _ _ _ _ _
    refine RD hnt (nn 3 []) [25] [(6,pI (w64 (((k1 : Nat) : Int) + 1)))] [] [] tv ?_
    exact jD () ⟨hlt1,hm⟩ (Conv.tp [(6,pI (w64 (((k1 : Nat) : Int) + 1)))] [] (by kernel_rfl) (.cons rfl (.of_eq (congrArg pI (Bl hlt1 hc1))) .nil) .nil)
  ·intro h11
   have hge1 : ¬ k1 < p0.tasks.length := by have := of_decide_eq_false h11; omega
   have hm := he1 hge1
   unfold AhI at hm
   refine DW.exit ?_
   refine Ar ?_
   refine Au ?_
   refine Ap ?_
   show DW _ _ _ _ _
   refine Sq (RD hnt (nn 3 []) [1,2,6,15] [(5,pB false)] [1016] [] tv ?_)
   obtain rfl := sj hm
   exact DW.ret (Ai [] [] (.p (.tup [.agg [vi 0,vi 0,vi 0,vi 0],vb false])))
abbrev o20 (ks : List Nat) (b : Bool) (RES : An × Bool) : Orc := .call 66 ks b (.p (.tup [.agg (Ao RES.1),vb RES.2])) [] []

theorem Ln (p0 : Af) (p1 : Int) (RES : List Int) (hm : Dt p0 p1 = some RES) : Spec Tryz.prog 72 [.p (.agg (Aj p0)),pI p1] [] (ow 0 RES.length) [] [roI RES] := by
 unfold Dt at hm
 refine SO Tryz.func72 rfl rfl [(0,.p (.agg (Aj p0))),(1,pI p1)] [] ?_
 intro cx hnt
 refine Sq (RK hnt (nn 2 []) [(1,pI p1),(2,rr 1016)] [(1016,bx (pm (Aj p0)))] tv ?_)
 obtain ⟨r1,hr1,hm⟩ := bo hm
 refine Sq (Sq (RD hnt (nn 2 (o15 [] true r1 :: .no :: [])) [] [(8,pB (!r1))] [] [] (an (Cf p0 p1 r1 hr1) tv) ?_))
 refine Ag hm ?_ ?_
 ·intro h2 hm
  refine Sq (RK hnt (.no :: []) [(4,.p (.sl .nil 0 0 (fun _ => [])))] [] tv ?_)
  refine DW.cv [] [(4,ow 100000 0)] [] [(100000,ob0 (roI []))] (Conv.ads [(.s 4,100000,1,elems Bw 0 [])]) ?_
  obtain rfl := sj hm
  exact DW.ret (Ai [roI []] [100000] (ow 0 0))
 ·intro h2 hm
  refine Sk ?_
  obtain ⟨r3,hr3,hm⟩ := bo hm
  refine Sq (RK hnt (nn 2 (o13 [] true r3 :: .no :: [])) [(4,ow 1088 r3.length)] [(1088,ob0 (roI r3))] (an (Ahw p0 p1 r3 hr3) tv) ?_)
  obtain rfl := sj hm
  exact DW.ret (Ai [roI r3] [1088] (ow 0 r3.length))
abbrev o22 (ks : List Nat) (b : Bool) (RES : List Int) : Orc := .call 72 ks b (ow 0 RES.length) [] [roI RES]

theorem To (p0 : Af) (p1 : Int) (RES : Int × Bool) (hm : Jg p0 p1 = some RES) : Spec Tryz.prog 67 [.p (.agg (Aj p0)),pI p1] [] (.p (.tup [vi RES.1,vb RES.2])) [] [] := by
 unfold Jg at hm
 refine SO Tryz.func67 rfl rfl [(0,.p (.agg (Aj p0))),(1,pI p1)] [] ?_
 intro cx hnt
 refine Sq (RK hnt (nn 3 []) [(1,pI p1),(2,rr 1016)] [(1016,bx (pm (Aj p0)))] tv ?_)
 obtain ⟨r1,hr1,hm⟩ := bo hm
 refine Sq (RD hnt (nn 2 (o22 [] true r1 :: .no :: [])) [1] [(6,ow 1096 r1.length)] [] [(1096,ob0 (roI r1))] (an (Ln p0 p1 r1 hr1) tv) ?_)
 refine Sq (Sq (RD hnt (.no :: []) [] [(7,pI 0)] [] [] tv ?_))
 refine Bk ?_
 obtain ⟨hc1,hm⟩ := go1 hm
 refine DW.rangeO (fun (k1 : Nat) (s1 : Unit) => Am [(2,rr 1016),(6,ow 1096 r1.length),(7,pI ((k1 : Nat) : Int))] [(1016,bx (pm (Aj p0))),(1096,ob0 (roI r1))]) 0 hm Conv.eqK ?_
 intro k1 s1 n1 hk1 hs1 he1
 refine Sq (Sq (RD hnt (nn 4 []) [] [(16,pB (decide (((k1 : Nat) : Int) < ((r1.length : Nat) : Int))))] [] [] tv ?_))
 refine Bx (decide (((k1 : Nat) : Int) < ((r1.length : Nat) : Int))) ?_ ?_
 ·intro h16
  have hlt1 : k1 < r1.length := by have := of_decide_eq_true h16; omega
  have hm := hs1 hlt1
  unfold Wz at hm
  refine Sk ?_
  refine Sq (Bk ?_)
  obtain ⟨r17,hr17,hm⟩ := bo hm
  refine Sq (RD hnt (nn 5 (o16 [] true r17 :: nn 6 [])) [16] [(8,rr 1064)] [] [(1064,bx (pm (Ak r17.1)))] (an (nn0 k1) (an (ltc hlt1) (an (by omega : k1 < r1.length) (an (Cu p0 (r1.getD k1 0) r17 hr17) tv)))) ?_)
  refine Sq (RD hnt (nn 3 []) [8] [(30,pB (r17.1.kind != 1))] [1064] [] tv ?_)
  refine Ag hm ?_ ?_
  ·intro h18 hm
   refine Sq (RK hnt (nn 6 []) [(4,pI (r1.getD k1 0)),(5,pB true)] [] (an (nn0 k1) (an (ltc hlt1) (an (by omega : k1 < r1.length) tv))) ?_)
   obtain rfl := sj hm
   exact DW.ret (Ai [] [] (.p (.tup [vi (r1.getD k1 0),vb true])))
  ·intro h18 hm
   refine Sk ?_
   refine DW.done ?_
   show DW _ _ _ _ _
   refine RD hnt (nn 3 []) [30] [(7,pI (w64 (((k1 : Nat) : Int) + 1)))] [] [] tv ?_
   exact jD () ⟨hlt1,hm⟩ (Conv.tp [(7,pI (w64 (((k1 : Nat) : Int) + 1)))] [] (by kernel_rfl) (.cons rfl (.of_eq (congrArg pI (Bl hlt1 hc1))) .nil) .nil)
 ·intro h16
  have hge1 : ¬ k1 < r1.length := by have := of_decide_eq_false h16; omega
  have hm := he1 hge1
  unfold Afd at hm
  refine DW.exit ?_
  refine Ar ?_
  refine Au ?_
  refine Ap ?_
  show DW _ _ _ _ _
  refine Sq (RK hnt (nn 2 []) [(4,pI 0),(5,pB false)] [] tv ?_)
  obtain rfl := sj hm
  exact DW.ret (Ai [] [] (.p (.tup [vi 0,vb false])))
abbrev o21 (ks : List Nat) (b : Bool) (RES : Int × Bool) : Orc := .call 67 ks b (.p (.tup [vi RES.1,vb RES.2])) [] []

abbrev Aaq (p0 : Af) (k1 : Nat) := (p0.nodes.getD k1 (default : Ah))
theorem Wb (p0 : Af) (p1 : Int) (RES : List Int) (hm : Hx p0 p1 = some RES) : Spec Tryz.prog 114 [.p (.agg (Aj p0)),pI p1] [] (ow 0 RES.length) [] [roI RES] := by
 unfold Hx at hm
 refine SO Tryz.func114 rfl rfl [(0,.p (.agg (Aj p0))),(1,pI p1)] [] ?_
 intro cx hnt
 refine Sq (RK hnt (nn 2 []) [(1,pI p1),(2,rr 1016)] [(1016,bx (pm (Aj p0)))] tv ?_)
 obtain ⟨r1,hr1,hm⟩ := bo hm
 refine Sq (Sq (RD hnt (nn 2 (o15 [] true r1 :: .no :: [])) [] [(10,pB (!r1))] [] [] (an (Cf p0 p1 r1 hr1) tv) ?_))
 refine Ag hm ?_ ?_
 ·intro h2 hm
  refine Sq (RK hnt (.no :: []) [(4,.p (.sl .nil 0 0 (fun _ => [])))] [] tv ?_)
  refine DW.cv [] [(4,ow 100000 0)] [] [(100000,ob0 (roI []))] (Conv.ads [(.s 4,100000,1,elems Bw 0 [])]) ?_
  obtain rfl := sj hm
  exact DW.ret (Ai [roI []] [100000] (ow 0 0))
 ·intro h2 hm
  refine Sk ?_
  refine Sq (RD hnt (.no :: []) [10] [(5,.p (.sl .nil 0 0 (fun _ => [])))] [] [] tv ?_)
  refine Sq (Sq (RD hnt (.no :: []) [] [(6,pI 0)] [] [] tv ?_))
  refine Bk ?_
  obtain ⟨hc1,hm⟩ := go1 hm
  refine DW.rangeO (fun (k1 : Nat) (s1 : List Int) => Am [(1,pI p1),(2,rr 1016),(5,ow 1272 s1.length),(6,pI ((k1 : Nat) : Int))] [(1016,bx (pm (Aj p0))),(1272,ob0 (roI s1))]) As hm (Conv.ads [(.s 5,1272,1,elems Bw 0 [])]) ?_
  intro k1 s1 n1 hk1 hs1 he1
  refine Sq (Sq (RD hnt (nn 5 []) [] [(15,pB (decide (((k1 : Nat) : Int) < ((p0.nodes.length : Nat) : Int))))] [] [] tv ?_))
  refine Bx (decide (((k1 : Nat) : Int) < ((p0.nodes.length : Nat) : Int))) ?_ ?_
  ·intro h12
   have hlt1 : k1 < p0.nodes.length := by have := of_decide_eq_true h12; omega
   have hm := hs1 hlt1
   unfold Yq at hm
   refine Sk ?_
   refine Sq ?_
   refine Jn (ι := List Int) (fun (y3 : List Int) => Am [(1,pI p1),(2,rr 1016),(5,ow 1272 y3.length),(6,pI ((k1 : Nat) : Int))] [(1016,bx (pm (Aj p0))),(1272,ob0 (roI y3))]) (fun y3 => (Pk n1) y3 = some RES) ?_ ?_
   ·intro y3 hm
    unfold Pk at hm
    refine RD hnt (nn 3 []) [] [(6,pI (w64 (((k1 : Nat) : Int) + 1)))] [] [] tv ?_
    exact jD y3 ⟨hlt1,hm⟩ (Conv.tp [(6,pI (w64 (((k1 : Nat) : Int) + 1)))] [] (by kernel_rfl) (.cons rfl (.of_eq (congrArg pI (Bl hlt1 hc1))) .nil) .nil)
   ·refine Bk ?_
    refine Sq (RD hnt (nn 8 []) [15] [(25,pB ((Aaq p0 k1).parent == p1))] [] [] (an (nn0 k1) (an (ltc hlt1) tv)) ?_)
    refine Ag hm ?_ ?_
    ·intro h13 hm
     obtain ⟨g14,hm⟩ := go1 hm
     refine RN hnt (nn 10 []) [(1,pI p1),(2,rr 1016),(5,ow 1272 (s1 ++ [(Aaq p0 k1).id]).length),(6,pI ((k1 : Nat) : Int))] [(1016,bx (pm (Aj p0))),(1272,ob0 (roI (s1 ++ [(Aaq p0 k1).id])))] [(5,ow 1272 (s1.length + 1))] [(1272,.row 1 (s1.length + 1) (Dw s1.length (elI s1) (cut 1 [vi (Aaq p0 k1).id])))] (an (nn0 k1) (an (ltc hlt1) (an (by omega : (s1.length + 1) * 8 ≤ 140737488355328) tv))) (by kernel_rfl) (.cons rfl (MLe.ownLen (enc := Bw) (d := 0) (f := (Dw s1.length (elI s1) (cut 1 [vi (Aaq p0 k1).id]))) (RowIs.cat RowIs.elems (RowIs.lit (enc := Bw) (d := 0) (n := 1) (f := (cut 1 [vi (Aaq p0 k1).id])) [(Aaq p0 k1).id] rfl (fun | 0,_ => rfl | n + 1,h => absurd h (by omega))))) .nil) (.cons rfl (BLe.typed (RowIs.cat RowIs.elems (RowIs.lit (enc := Bw) (d := 0) (n := 1) (f := (cut 1 [vi (Aaq p0 k1).id])) [(Aaq p0 k1).id] rfl (fun | 0,_ => rfl | n + 1,h => absurd h (by omega))))) .nil) ?_
     exact bD (s1 ++ [(Aaq p0 k1).id]) hm .refl
    ·intro h13 hm
     refine Sk ?_
     exact bD s1 hm Conv.t0
  ·intro h12
   have hge1 : ¬ k1 < p0.nodes.length := by have := of_decide_eq_false h12; omega
   have hm := he1 hge1
   unfold AcM at hm
   refine DW.exit ?_
   refine Ar ?_
   refine Au ?_
   refine Ap ?_
   show DW _ _ _ _ _
   refine Sq (RK hnt (nn 2 []) [(4,ow 1272 s1.length)] [(1272,ob0 (roI s1))] tv ?_)
   obtain rfl := sj hm
   exact DW.ret (Ai [roI s1] [1272] (ow 0 s1.length))
abbrev o24 (ks : List Nat) (b : Bool) (RES : List Int) : Orc := .call 114 ks b (ow 0 RES.length) [] [roI RES]

theorem AjX (rec : Af → Int → Option Int) (ih : ∀ (p0 : Af) (p1 : Int) (RES : Int),rec p0 p1 = some RES → Spec Tryz.prog 68 [.p (.agg (Aj p0)),pI p1] [] (pI RES) [] []) (p0 : Af) (p1 : Int) (RES : Int) (hm : Pr rec p0 p1 = some RES) : Spec Tryz.prog 68 [.p (.agg (Aj p0)),pI p1] [] (pI RES) [] [] := by
 unfold Pr at hm
 refine SO Tryz.func68 rfl rfl [(0,.p (.agg (Aj p0))),(1,pI p1)] [] ?_
 intro cx hnt
 refine Sq (RK hnt (nn 2 []) [(1,pI p1),(2,rr 1016)] [(1016,bx (pm (Aj p0)))] tv ?_)
 obtain ⟨r1,hr1,hm⟩ := bo hm
 refine Sq (RD hnt (nn 2 (o16 [] true r1 :: nn 6 [])) [] [(5,rr 1040),(6,pB r1.2)] [] [(1040,bx (pm (Ak r1.1)))] (an (Cu p0 p1 r1 hr1) tv) ?_)
 refine Sq (Sq (RD hnt (nn 2 []) [6] [(20,pB (!r1.2))] [] [] tv ?_))
 refine Ag hm ?_ ?_
 ·intro h2 hm
  refine Sq (RK hnt (.no :: []) [(4,pI 0)] [] tv ?_)
  obtain rfl := sj hm
  exact DW.ret (Ai [] [] (pI 0))
 ·intro h2 hm
  refine Sk ?_
  refine Sq (Sq (RD hnt (nn 3 []) [20] [(23,pB (r1.1.kind == 1))] [] [] tv ?_))
  refine Ag hm ?_ ?_
  ·intro h3 hm
   refine Sq (RK hnt (.no :: []) [(4,pI 2)] [] tv ?_)
   obtain rfl := sj hm
   exact DW.ret (Ai [] [] (pI 2))
  ·intro h3 hm
   refine Sk ?_
   obtain ⟨r4,hr4,hm⟩ := bo hm
   refine Sq (Sq (RD hnt (nn 3 (o16 [] true r4 :: nn 6 [])) [5,23] [(7,rr 1056),(8,pB r4.2)] [1040] [(1056,bx (pm (Ak r4.1)))] (an (Cu p0 r1.1.parent r4 hr4) tv) ?_))
   refine Sq ?_
   refine Jn (ι := Bool) (fun (y1 : Bool) => Am [(1,pI p1),(2,rr 1016),(43,pB y1)] [(1016,bx (pm (Aj p0)))]) (fun y1 => (Lc p0 p1) y1 = some RES) ?_ ?_
   ·intro y1 hm
    unfold Lc at hm
    refine Ag hm ?_ ?_
    ·intro h8 hm
     refine Sq (RK hnt (.no :: []) [(4,pI 3)] [] tv ?_)
     obtain rfl := sj hm
     exact DW.ret (Ai [] [] (pI 3))
    ·intro h8 hm
     refine Sk ?_
     obtain ⟨r9,hr9,hm⟩ := bo hm
     refine Sq (RD hnt (nn 2 (o24 [] true r9 :: .no :: [])) [1,43] [(9,ow 1368 r9.length)] [] [(1368,ob0 (roI r9))] (an (Wb p0 p1 r9 hr9) tv) ?_)
     refine Sq (Sq (RD hnt (.no :: []) [] [(10,pI 0)] [] [] tv ?_))
     refine Bk ?_
     obtain ⟨hc1,hm⟩ := go1 hm
     refine DW.rangeO (fun (k1 : Nat) (s1 : Unit) => Am [(2,rr 1016),(9,ow 1368 r9.length),(10,pI ((k1 : Nat) : Int))] [(1016,bx (pm (Aj p0))),(1368,ob0 (roI r9))]) 0 hm Conv.eqK ?_
     intro k1 s1 n1 hk1 hs1 he1
     refine Sq (Sq (RD hnt (nn 4 []) [] [(50,pB (decide (((k1 : Nat) : Int) < ((r9.length : Nat) : Int))))] [] [] tv ?_))
     refine Bx (decide (((k1 : Nat) : Int) < ((r9.length : Nat) : Int))) ?_ ?_
     ·intro h20
      have hlt1 : k1 < r9.length := by have := of_decide_eq_true h20; omega
      have hm := hs1 hlt1
      unfold Aad at hm
      refine Sk ?_
      refine Sq (Bk ?_)
      obtain ⟨r21,hr21,hm⟩ := bo hm
      refine Sq (RD hnt (nn 5 (o16 [] true r21 :: nn 6 [])) [50] [(11,rr 1088)] [] [(1088,bx (pm (Ak r21.1)))] (an (nn0 k1) (an (ltc hlt1) (an (by omega : k1 < r9.length) (an (Cu p0 (r9.getD k1 0) r21 hr21) tv)))) ?_)
      refine Sq (RD hnt (nn 3 []) [11] [(64,pB (r21.1.kind == 1))] [1088] [] tv ?_)
      refine Ag hm ?_ ?_
      ·intro h22 hm
       refine Sq (RK hnt (.no :: []) [(4,pI 1)] [] tv ?_)
       obtain rfl := sj hm
       exact DW.ret (Ai [] [] (pI 1))
      ·intro h22 hm
       refine Sk ?_
       refine DW.done ?_
       show DW _ _ _ _ _
       refine RD hnt (nn 3 []) [64] [(10,pI (w64 (((k1 : Nat) : Int) + 1)))] [] [] tv ?_
       exact jD () ⟨hlt1,hm⟩ (Conv.tp [(10,pI (w64 (((k1 : Nat) : Int) + 1)))] [] (by kernel_rfl) (.cons rfl (.of_eq (congrArg pI (Bl hlt1 hc1))) .nil) .nil)
     ·intro h20
      have hge1 : ¬ k1 < r9.length := by have := of_decide_eq_false h20; omega
      have hm := he1 hge1
      unfold Ahx at hm
      refine DW.exit ?_
      refine Ar ?_
      refine Au ?_
      refine Ap ?_
      show DW _ _ _ _ _
      refine Sq (RK hnt (.no :: []) [(4,pI 0)] [] tv ?_)
      obtain rfl := sj hm
      exact DW.ret (Ai [] [] (pI 0))
   ·rcases bt r4.2 with h5 | h5
    ·replace hm := Ba h5 hm
     rcases bt (r4.1.kind == 1) with h6 | h6
     ·replace hm := Ba h6 hm
      refine RD hnt (nn 6 (sk 5 (pT :: pT :: []))) [7,8] [(43,pB true)] [1056] [] (an4 h5 (an5 h6 (an h5 (an h6 (an h5 tv))))) ?_
      exact jD true hm Conv.eqK
     ·replace hm := Bb h6 hm
      obtain ⟨r7,hr7,hm⟩ := bo hm
      refine RD hnt (nn 9 (.call 68 [] true (pI r7) [] [] :: .no :: pF :: pT :: [])) [7,8] [(43,pB (r7 == 3))] [1056] [] (an4 h5 (an4 h6 (an (ih p0 r4.1.id r7 hr7) (an h6 (an h5 (an h6 (an h5 tv))))))) ?_
      exact jD (r7 == 3) hm Conv.eqK
    ·replace hm := Bb h5 hm
     refine RD hnt (nn 2 (sk 10 (pF :: []))) [7,8] [(43,pB false)] [1056] [] (an6 h5 tv) ?_
     exact jD false hm Conv.eqK
theorem Aeo : ∀ (n : Nat) (p0 : Af) (p1 : Int) (RES : Int),Ic n p0 p1 = some RES → Spec Tryz.prog 68 [.p (.agg (Aj p0)),pI p1] [] (pI RES) [] []
  | 0,p0,p1,RES,hm => by simp [Ic] at hm
  | n + 1,p0,p1,RES,hm => AjX (Ic n) (Aeo n) p0 p1 RES hm
theorem Gy (p0 : Af) (p1 : Int) (RES : Int) (hm : Ke p0 p1 = some RES) : Spec Tryz.prog 68 [.p (.agg (Aj p0)),pI p1] [] (pI RES) [] [] := Aeo Fy p0 p1 RES hm
abbrev o23 (ks : List Nat) (b : Bool) (RES : Int) : Orc := .call 68 ks b (pI RES) [] []

abbrev c7e1 (p0 : Aa) (k4 : Nat) := (p0.tree.nodes.getD k4 (default : Ah))
abbrev c7e2 (p0 : Aa) : Nat × Obj := (1008,bx (pm (Ab p0)))
theorem Ib (p0 : Aa) (RES : Bool) (hm : Fq p0 = some RES) : Spec Tryz.prog 23 [.p (.agg (Ab p0))] [] (pB RES) [] [] := by
 unfold Fq at hm
 refine SO Tryz.func23 rfl rfl [(0,.p (.agg (Ab p0)))] [] ?_
 intro cx hnt
 refine Sq (RK hnt (nn 2 []) [(1,rr 1008)] [(c7e2 p0)] tv ?_)
 obtain ⟨r1,hr1,hm⟩ := bo hm
 refine Sq (Sq (RD hnt (.no :: o8 [] true r1 :: .no :: []) [] [(16,pB (!r1))] [] [] (an (Qn p0 r1 hr1) tv) ?_))
 refine Ag hm ?_ ?_
 ·intro h2 hm
  refine Sq (RK hnt (.no :: []) [(2,pB false)] [] tv ?_)
  obtain rfl := sj hm
  exact DW.ret (Ai [] [] (pB false))
 ·intro h2 hm
  refine Sk ?_
  refine Sq (Sq (RD hnt (.no :: []) [16] [(3,pI 0)] [] [] tv ?_))
  refine Bk ?_
  obtain ⟨hc1,hm⟩ := go1 hm
  refine DW.rangeO (fun (k1 : Nat) (s1 : Unit) => Am [(1,rr 1008),(3,pI ((k1 : Nat) : Int))] [(c7e2 p0)]) Ax hm Conv.eqK ?_
  intro k1 s1 n1 hk1 hs1 he1
  refine Sq (Sq (RD hnt (nn 5 []) [] [(21,pB (decide (((k1 : Nat) : Int) < ((p0.tasks.length : Nat) : Int))))] [] [] tv ?_))
  refine Bx (decide (((k1 : Nat) : Int) < ((p0.tasks.length : Nat) : Int))) ?_ ?_
  ·intro h99
   have hlt1 : k1 < p0.tasks.length := by have := of_decide_eq_true h99; omega
   have hm := hs1 hlt1
   unfold Aao at hm
   refine Sk ?_
   refine Sq (Bk ?_)
   obtain ⟨r100,hr100,hm⟩ := bo hm
   refine Sq (RD hnt (nn 7 (o20 [] true r100 :: nn 6 [])) [21] [(4,rr 1032)] [] [(1032,bx (pm (Ao r100.1)))] (an (nn0 k1) (an (ltc hlt1) (an (Ih p0 (p0.tasks.getD k1 (default : An)).process r100 hr100) tv))) ?_)
   obtain ⟨r101,hr101,hm⟩ := bo hm
   refine Sq (RD hnt (nn 8 (o21 [] true r101 :: nn 5 [])) [] [(6,pI r101.1)] [] [] (an (nn0 k1) (an (ltc hlt1) (an (To p0.tree (p0.tasks.getD k1 (default : An)).group r101 hr101) tv))) ?_)
   obtain ⟨r102,hr102,hm⟩ := bo hm
   refine Sq (RD hnt (nn 4 (o21 [] true r102 :: nn 5 [])) [4] [(8,pI r102.1)] [1032] [] (an (To p0.tree r100.1.group r102 hr102) tv) ?_)
   refine Sq (RD hnt (nn 3 []) [6,8] [(57,pB (r101.1 != r102.1))] [] [] tv ?_)
   refine Ag hm ?_ ?_
   ·intro h103 hm
    refine Sq (RK hnt (.no :: []) [(2,pB false)] [] tv ?_)
    obtain rfl := sj hm
    exact DW.ret (Ai [] [] (pB false))
   ·intro h103 hm
    refine Sk ?_
    refine DW.done ?_
    show DW _ _ _ _ _
    refine RD hnt (nn 3 []) [57] [(3,pI (w64 (((k1 : Nat) : Int) + 1)))] [] [] tv ?_
    exact jD () ⟨hlt1,hm⟩ (Conv.tp [(3,pI (w64 (((k1 : Nat) : Int) + 1)))] [] (by kernel_rfl) (.cons rfl (.of_eq (congrArg pI (Bl hlt1 hc1))) .nil) .nil)
  ·intro h99
   have hge1 : ¬ k1 < p0.tasks.length := by have := of_decide_eq_false h99; omega
   have hm := he1 hge1
   unfold Aai at hm
   refine DW.exit ?_
   refine Ar ?_
   refine Au ?_
   refine Ap ?_
   show DW _ _ _ _ _
   refine Sq (Sq (RD hnt (.no :: []) [3,21] [(10,pI 0)] [] [] tv ?_))
   refine Bk ?_
   obtain ⟨hc4,hm⟩ := go1 hm
   refine DW.rangeO (fun (k4 : Nat) (s4 : Unit) => Am [(1,rr 1008),(10,pI ((k4 : Nat) : Int))] [(c7e2 p0)]) As hm Conv.eqK ?_
   intro k4 s4 n4 hk4 hs4 he4
   refine Sq (Sq (RD hnt (nn 6 []) [] [(63,pB (decide (((k4 : Nat) : Int) < ((p0.tree.nodes.length : Nat) : Int))))] [] [] tv ?_))
   refine Bx (decide (((k4 : Nat) : Int) < ((p0.tree.nodes.length : Nat) : Int))) ?_ ?_
   ·intro h132
    have hlt4 : k4 < p0.tree.nodes.length := by have := of_decide_eq_true h132; omega
    have hm := hs4 hlt4
    unfold Aan at hm
    refine Sk ?_
    refine Sq (Bk ?_)
    refine Sq (RD hnt (nn 8 []) [63] [(11,rr 1088)] [] [(1088,bx (pm (Ak (c7e1 p0 k4))))] (an (nn0 k4) (an (ltc hlt4) tv)) ?_)
    obtain ⟨r133,hr133,hm⟩ := bo hm
    refine Sq (RD hnt (nn 4 (o16 [] true r133 :: nn 6 [])) [] [(12,rr 1096)] [] [(1096,bx (pm (Ak r133.1)))] (an (Cu p0.tree (c7e1 p0 k4).parent r133 hr133) tv) ?_)
    obtain ⟨r134,hr134,hm⟩ := bo hm
    refine Sq (Sq ?_)
    refine Jn (ι := Bool) (fun (y17 : Bool) => Am [(1,rr 1008),(10,pI ((k4 : Nat) : Int)),(11,rr 1088),(12,rr 1096),(98,pB y17)] [(c7e2 p0),(1088,bx (pm (Ak (c7e1 p0 k4)))),(1096,bx (pm (Ak r133.1)))]) (fun y17 => (Jp p0 (c7e1 p0 k4) n4 r133) y17 = some RES) ?_ ?_
    ·intro y17 hm
     unfold Jp at hm
     refine Ag hm ?_ ?_
     ·intro h138 hm
      refine Sq (RK hnt (.no :: []) [(2,pB false)] [] tv ?_)
      obtain rfl := sj hm
      exact DW.ret (Ai [] [] (pB false))
     ·intro h138 hm
      refine Sk ?_
      refine Sq ?_
      refine Jn (ι := Bool) (fun (y18 : Bool) => Am [(1,rr 1008),(10,pI ((k4 : Nat) : Int)),(120,pB y18)] [(c7e2 p0)]) (fun y18 => (Hq n4) y18 = some RES) ?_ ?_
      ·intro y18 hm
       unfold Hq at hm
       refine Ag hm ?_ ?_
       ·intro h144 hm
        refine Sq (RK hnt (.no :: []) [(2,pB false)] [] tv ?_)
        obtain rfl := sj hm
        exact DW.ret (Ai [] [] (pB false))
       ·intro h144 hm
        refine Sk ?_
        refine DW.done ?_
        show DW _ _ _ _ _
        refine RD hnt (nn 3 []) [120] [(10,pI (w64 (((k4 : Nat) : Int) + 1)))] [] [] tv ?_
        exact jD () ⟨hlt4,hm⟩ (Conv.tp [(10,pI (w64 (((k4 : Nat) : Int) + 1)))] [] (by kernel_rfl) (.cons rfl (.of_eq (congrArg pI (Bl hlt4 hc4))) .nil) .nil)
      ·rcases bt ((c7e1 p0 k4).kind == 1) with h139 | h139
       ·replace hm := Ba h139 hm
        rcases bt (r133.1.id != 1) with h140 | h140
        ·replace hm := Ba h140 hm
         rcases bt ((kand .i64 r133.1.control 6) != 0) with h141 | h141
         ·replace hm := Ba h141 hm
          refine RD hnt (nn 12 (pT :: .no :: sk 6 (pT :: pT :: []))) [11,12,98] [(120,pB true)] [1088,1096] [] (an4 h139 (an4 h140 (an h139 (an h140 (an h139 (an6 h141 (an h139 (an h141 (an h139 tv))))))))) ?_
          exact jD true hm Conv.eqK
         ·replace hm := Bb h141 hm
          obtain ⟨r142,hr142,hm⟩ := bo hm
          refine RD hnt (nn 12 (pT :: nn 5 (o23 [] true r142 :: .no :: pF :: pT :: []))) [11,12,98] [(120,pB (r142 == 3))] [1088,1096] [] (an4 h139 (an4 h140 (an h139 (an h140 (an h139 (an5 h141 (an (Gy p0.tree r133.1.id r142 hr142) (an h141 (an h139 (an h141 (an h139 tv))))))))))) ?_
          exact jD (r142 == 3) hm Conv.eqK
        ·replace hm := Bb h140 hm
         obtain ⟨r143,hr143,hm⟩ := bo hm
         refine RD hnt (nn 8 (sk 4 (pF :: nn 5 (o23 [] true r143 :: .no :: pF :: pT :: [])))) [11,12,98] [(120,pB (r143 == 3))] [1088,1096] [] (an4 h139 (an4 h140 (an h139 (an h140 (an h139 (an5 ff (an (Gy p0.tree r133.1.id r143 hr143) (an ff (an h139 (an ff (an h139 tv))))))))))) ?_
         exact jD (r143 == 3) hm Conv.eqK
       ·replace hm := Bb h139 hm
        refine RD hnt (nn 4 (sk 17 (pF :: []))) [11,12,98] [(120,pB false)] [1088,1096] [] (an2 h139 (an6 h139 tv)) ?_
        exact jD false hm Conv.eqK
    ·rcases bt (r134 == 3) with h135 | h135
     ·replace hm := Ba h135 hm
      rcases bt ((c7e1 p0 k4).control != 0) with h136 | h136
      ·replace hm := Ba h136 hm
       refine RD hnt (nn 4 (o23 [] true r134 :: nn 6 (sk 6 (pT :: pT :: [])))) [] [(98,pB true)] [] [] (an (Gy p0.tree (c7e1 p0 k4).id r134 hr134) (an4 h135 (an6 h136 (an h135 (an h136 (an h135 tv)))))) ?_
       exact jD true hm Conv.eqK
      ·replace hm := Bb h136 hm
       obtain ⟨r137,hr137,hm⟩ := bo hm
       refine RD hnt (nn 4 (o23 [] true r134 :: nn 9 (o19 [] true r137 :: nn 2 (pF :: pT :: [])))) [] [(98,pB (decide (((r137.length : Nat) : Int) > 0)))] [] [] (an (Gy p0.tree (c7e1 p0 k4).id r134 hr134) (an4 h135 (an4 h136 (an (Nd p0 (c7e1 p0 k4).id r137 hr137) (an2 h136 (an h135 (an h136 (an h135 tv)))))))) ?_
       exact jD (decide (((r137.length : Nat) : Int) > 0)) hm Conv.eqK
     ·replace hm := Bb h135 hm
      refine RD hnt (nn 4 (o23 [] true r134 :: nn 2 (sk 11 (pF :: [])))) [] [(98,pB false)] [] [] (an (Gy p0.tree (c7e1 p0 k4).id r134 hr134) (an6 h135 tv)) ?_
      exact jD false hm Conv.eqK
   ·intro h132
    have hge4 : ¬ k4 < p0.tree.nodes.length := by have := of_decide_eq_false h132; omega
    have hm := he4 hge4
    unfold AhJ at hm
    refine DW.exit ?_
    refine Ar ?_
    refine Au ?_
    refine Ap ?_
    show DW _ _ _ _ _
    refine Sq (RK hnt (.no :: []) [(2,pB true)] [] tv ?_)
    obtain rfl := sj hm
    exact DW.ret (Ai [] [] (pB true))
abbrev o7 (ks : List Nat) (b : Bool) (RES : Bool) : Orc := .call 23 ks b (pB RES) [] []

theorem Zp (p0 : Af) (p1 : Int) (RES : Int) (hm : Yh p0 p1 = some RES) : Spec Tryz.prog 119 [.p (.agg (Aj p0)),pI p1] [] (pI RES) [] [] := by
 unfold Yh at hm
 refine SO Tryz.func119 rfl rfl [(0,.p (.agg (Aj p0))),(1,pI p1)] [] ?_
 intro cx hnt
 refine Sq (RK hnt (nn 2 []) [(1,pI p1),(2,rr 1016)] [(1016,bx (pm (Aj p0)))] tv ?_)
 obtain ⟨r1,hr1,hm⟩ := bo hm
 refine Sq (RK hnt (nn 2 (o22 [] true r1 :: nn 3 [])) [(4,pI (w64 (((r1.length : Nat) : Int) - 1)))] [] (an (Ln p0 p1 r1 hr1) tv) ?_)
 obtain rfl := sj hm
 exact DW.ret (Ai [] [] (pI (w64 (((r1.length : Nat) : Int) - 1))))
abbrev o26 (ks : List Nat) (b : Bool) (RES : Int) : Orc := .call 119 ks b (pI RES) [] []

theorem Xe (p0 : Af) (RES : Af) (hm : Rp p0 = some RES) : Spec Tryz.prog 85 [.p (.agg (Aj p0))] [] (.agg [ow 0 RES.nodes.length,pI RES.next]) [] [Ac RES.nodes] := by
 unfold Rp at hm
 refine SO Tryz.func85 rfl rfl [(0,.p (.agg (Aj p0)))] [] ?_
 intro cx hnt
 refine Sq (RK hnt (nn 2 []) [(1,rr 1008),(2,rr 1016)] [(1008,bx (pm (Aj p0))),(1016,bx [.p (.sl .nil 0 0 (fun _ => [])),pI 0])] tv ?_)
 obtain ⟨g1,hm⟩ := go1 hm
 refine Sq (RN hnt (nn 7 []) [(2,rr 1016)] [(1016,bx [ow 1040 p0.nodes.length,pI p0.next]),(1040,ob0 (Ac p0.nodes))] [] [(1040,.row 6 p0.nodes.length (Ey p0.nodes))] (an (by omega : p0.nodes.length * 56 ≤ 140737488355328) tv) (by kernel_rfl) .nil (.cons rfl (BLe.typed RowIs.elems) .nil) ?_)
 obtain rfl := sj hm
 exact DW.ret (Ai [Ac p0.nodes] [1040] (.agg [ow 0 p0.nodes.length,pI p0.next]))
abbrev o27 (ks : List Nat) (b : Bool) (RES : Af) : Orc := .call 85 ks b (.agg [ow 0 RES.nodes.length,pI RES.next]) [] [Ac RES.nodes]

abbrev AcX (p0 : Af) (p1 : Int) (p2 : ByteArray) := ({ id := p0.next,parent := p1,name := p2,control := 0,kind := 0,owner := 0 } : Ah)
abbrev AgM : Nat × Obj := (1048,bx [.p (.sl .nil 0 0 (fun _ => [])),pI 0])
abbrev AgV (p0 : Af) : Nat × Obj := (1024,bx (pm (Aj p0)))
abbrev c25e4 : Nat × Obj := (1048,bx [ow 100000 0,pI 0])
theorem Agf (p0 : Af) (p1 : Int) (p2 : ByteArray) (RES : Af × Int × Int) (hm : Aab p0 p1 p2 = some RES) : Spec Tryz.prog 73 [.p (.agg (Aj p0)),pI p1,pS p2] [] (.tup [.agg [ow 0 RES.1.nodes.length,pI RES.1.next],pI RES.2.1,pI RES.2.2]) [] [Ac RES.1.nodes] := by
 unfold Aab at hm
 refine SO Tryz.func73 rfl rfl [(0,.p (.agg (Aj p0))),(1,pI p1),(2,pS p2)] [] ?_
 intro cx hnt
 refine Sq (RD hnt (nn 4 []) [0] [(3,rr 1024),(6,rr 1048)] [] [(AgV p0),(AgM)] tv ?_)
 obtain ⟨r1,hr1,hm⟩ := bo hm
 refine Sq (Sq ?_)
 refine Jn (ι := Bool) (fun (y1 : Bool) => Am [(1,pI p1),(2,pS p2),(3,rr 1024),(6,rr 1048),(18,pB y1)] [(AgV p0),(AgM)]) (fun y1 => (Yv p0 p1 p2) y1 = some RES) ?_ ?_
 ·intro y1 hm
  unfold Yv at hm
  refine Ag hm ?_ ?_
  ·intro h4 hm
   refine Sq (RD hnt (nn 4 []) [1,2,3,18] [(7,pI 0),(8,pI 1)] [1024] [] tv ?_)
   refine DW.cv [] [] [] [(c25e4),(100000,ob0 (Ac []))] (Conv.ads [(.o 1048 0,100000,6,elems Ak As [])]) ?_
   obtain rfl := sj hm
   exact DW.ret (Ai [Ac []] [100000] (.tup [.agg [ow 0 0,pI 0],pI 0,pI 1]))
  ·intro h4 hm
   refine Sk ?_
   obtain ⟨r5,hr5,hm⟩ := bo hm
   refine Sq (Sq (RD hnt (nn 2 (o15 [] true r5 :: .no :: [])) [18] [(23,pB (!r5))] [] [] (an (Cf p0 p1 r5 hr5) tv) ?_))
   refine Ag hm ?_ ?_
   ·intro h6 hm
    refine Sq (RD hnt (nn 4 []) [1,2,3,23] [(7,pI 0),(8,pI 4)] [1024] [] tv ?_)
    refine DW.cv [] [] [] [(c25e4),(100000,ob0 (Ac []))] (Conv.ads [(.o 1048 0,100000,6,elems Ak As [])]) ?_
    obtain rfl := sj hm
    exact DW.ret (Ai [Ac []] [100000] (.tup [.agg [ow 0 0,pI 0],pI 0,pI 4]))
   ·intro h6 hm
    refine Sk ?_
    refine Sq (Sq (RD hnt (.no :: []) [23] [(9,pI 0)] [] [] tv ?_))
    refine Bk ?_
    obtain ⟨hc1,hm⟩ := go1 hm
    refine DW.rangeO (fun (k1 : Nat) (s1 : Unit) => Am [(1,pI p1),(2,pS p2),(3,rr 1024),(6,rr 1048),(9,pI ((k1 : Nat) : Int))] [(AgV p0),(AgM)]) As hm Conv.eqK ?_
    intro k1 s1 n1 hk1 hs1 he1
    refine Sq (Sq (RD hnt (nn 5 []) [] [(29,pB (decide (((k1 : Nat) : Int) < ((p0.nodes.length : Nat) : Int))))] [] [] tv ?_))
    refine Bx (decide (((k1 : Nat) : Int) < ((p0.nodes.length : Nat) : Int))) ?_ ?_
    ·intro h29
     have hlt1 : k1 < p0.nodes.length := by have := of_decide_eq_true h29; omega
     have hm := hs1 hlt1
     unfold AeS at hm
     refine Sk ?_
     refine Sq (Bk ?_)
     refine Sq (DW.regJ (sl2 := [(1,pI p1),(2,pS p2),(3,rr 1024),(6,rr 1048),(9,pI ((k1 : Nat) : Int)),(49,pB (((p0.nodes.getD k1 (default : Ah)).parent == p1) && (Cz (p0.nodes.getD k1 (default : Ah)).name p2)))]) (ob2 := [(AgV p0),(AgM)]) ?_ ?_)
     ·rcases bt ((p0.nodes.getD k1 (default : Ah)).parent == p1) with h30 | h30
      ·exact RT hnt (nn 17 (pT :: [])) [(49,pB (Cz (p0.nodes.getD k1 (default : Ah)).name p2))] (an (nn0 k1) (an (ltc hlt1) (an4 h30 (an (nn0 k1) (an (ltc hlt1) (an5 h30 tv)))))) (by kernel_rfl) (.cons rfl (.of_eq (by rw [h30]; try rfl)) .nil)
      ·exact RT hnt (nn 9 (sk 8 (pF :: []))) [(49,pB false)] (an (nn0 k1) (an (ltc hlt1) (an3 h30 (an6 h30 tv)))) (by kernel_rfl) (.cons rfl (.of_eq (by rw [h30]; try rfl)) .nil)
     ·refine Ag hm ?_ ?_
      ·intro h31 hm
       refine Sq (RD hnt (nn 4 []) [1,2,3,9,49] [(7,pI 0),(8,pI 5)] [1024] [] tv ?_)
       refine DW.cv [] [] [] [(c25e4),(100000,ob0 (Ac []))] (Conv.ads [(.o 1048 0,100000,6,elems Ak As [])]) ?_
       obtain rfl := sj hm
       exact DW.ret (Ai [Ac []] [100000] (.tup [.agg [ow 0 0,pI 0],pI 0,pI 5]))
      ·intro h31 hm
       refine Sk ?_
       refine DW.done ?_
       show DW _ _ _ _ _
       refine RD hnt (nn 3 []) [49] [(9,pI (w64 (((k1 : Nat) : Int) + 1)))] [] [] tv ?_
       exact jD () ⟨hlt1,hm⟩ (Conv.tp [(9,pI (w64 (((k1 : Nat) : Int) + 1)))] [] (by kernel_rfl) (.cons rfl (.of_eq (congrArg pI (Bl hlt1 hc1))) .nil) .nil)
    ·intro h29
     have hge1 : ¬ k1 < p0.nodes.length := by have := of_decide_eq_false h29; omega
     have hm := he1 hge1
     unfold AeW at hm
     refine DW.exit ?_
     refine Ar ?_
     refine Au ?_
     refine Ap ?_
     show DW _ _ _ _ _
     obtain ⟨r32,hr32,hm⟩ := bo hm
     refine Sq (Sq ?_)
     refine Jn (ι := Bool) (fun (y6 : Bool) => Am [(1,pI p1),(2,pS p2),(3,rr 1024),(6,rr 1048),(65,pB y6)] [(AgV p0),(AgM)]) (fun y6 => (Rz p0 p1 p2) y6 = some RES) ?_ ?_
     ·intro y6 hm
      unfold Rz at hm
      refine Ag hm ?_ ?_
      ·intro h35 hm
       refine Sq (RD hnt (nn 4 []) [1,2,3,65] [(7,pI 0),(8,pI 7)] [1024] [] tv ?_)
       refine DW.cv [] [] [] [(c25e4),(100000,ob0 (Ac []))] (Conv.ads [(.o 1048 0,100000,6,elems Ak As [])]) ?_
       obtain rfl := sj hm
       exact DW.ret (Ai [Ac []] [100000] (.tup [.agg [ow 0 0,pI 0],pI 0,pI 7]))
      ·intro h35 hm
       refine Sk ?_
       obtain ⟨r36,hr36,hm⟩ := bo hm
       refine Sq (RD hnt (.no :: o27 [] true r36 :: nn 2 []) [65] [(10,rr 1080)] [] [(1080,bx [ow 1544 r36.nodes.length,pI r36.next]),(1544,ob0 (Ac r36.nodes))] (an (Xe p0 r36 hr36) tv) ?_)
       obtain ⟨g37,hm⟩ := go1 hm
       refine Sq (RN hnt (nn 11 []) [(3,rr 1024),(6,rr 1048),(10,rr 1080)] [(AgV p0),(AgM),(1080,bx [ow 1544 (r36.nodes ++ [(AcX p0 p1 p2)]).length,pI r36.next]),(1544,ob0 (Ac (r36.nodes ++ [(AcX p0 p1 p2)])))] [] [(1080,.box [ow 1544 (r36.nodes.length + 1),pI r36.next]),(1544,.row 6 (r36.nodes.length + 1) (Dw r36.nodes.length (Ey r36.nodes) (cut 6 [vi p0.next,vi p1,vs p2,vi 0,vi 0,vi 0])))] (an (by omega : (r36.nodes.length + 1) * 56 ≤ 140737488355328) tv) (by kernel_rfl) .nil (.cons rfl (.box (.cons (MLe.ownLen (enc := Ak) (d := As) (f := (Dw r36.nodes.length (Ey r36.nodes) (cut 6 [vi p0.next,vi p1,vs p2,vi 0,vi 0,vi 0]))) (RowIs.cat RowIs.elems (RowIs.lit (enc := Ak) (d := As) (n := 1) (f := (cut 6 [vi p0.next,vi p1,vs p2,vi 0,vi 0,vi 0])) [(AcX p0 p1 p2)] rfl (fun | 0,_ => rfl | n + 1,h => absurd h (by omega))))) (.cons .rfl .nil))) (.cons rfl (BLe.typed (RowIs.cat RowIs.elems (RowIs.lit (enc := Ak) (d := As) (n := 1) (f := (cut 6 [vi p0.next,vi p1,vs p2,vi 0,vi 0,vi 0])) [(AcX p0 p1 p2)] rfl (fun | 0,_ => rfl | n + 1,h => absurd h (by omega))))) .nil)) ?_)
       refine Sq (RD hnt (nn 5 []) [] [] [] [(1080,bx [ow 1544 (r36.nodes ++ [(AcX p0 p1 p2)]).length,pI (w64 (r36.next + 1))])] tv ?_)
       refine Sq (RD hnt (nn 6 []) [3,10] [(7,pI p0.next),(8,pI 0)] [1024,1080] [(1048,bx [ow 1544 (r36.nodes ++ [(AcX p0 p1 p2)]).length,pI (w64 (r36.next + 1))])] tv ?_)
       obtain rfl := sj hm
       exact DW.ret (Ai [Ac (r36.nodes ++ [(AcX p0 p1 p2)])] [1544] (.tup [.agg [ow 0 (r36.nodes ++ [(AcX p0 p1 p2)]).length,pI (w64 (r36.next + 1))],pI p0.next,pI 0]))
     ·rcases bt (decide (r32 ≥ 8)) with h33 | h33
      ·replace hm := Ba h33 hm
       refine RD hnt (nn 2 (o26 [] true r32 :: nn 2 (sk 4 (pT :: .no :: sk 3 (pT :: []))))) [9,29] [(65,pB true)] [] [] (an (Zp p0 p1 r32 hr32) (an5 h33 (an4 tt tv))) ?_
       exact jD true hm Conv.eqK
      ·replace hm := Bb h33 hm
       rcases bt (decide (((p0.nodes.length : Nat) : Int) ≥ 64)) with h34 | h34
       ·replace hm := Ba h34 hm
        refine RD hnt (nn 2 (o26 [] true r32 :: nn 6 (pF :: .no :: sk 3 (pT :: [])))) [9,29] [(65,pB true)] [] [] (an (Zp p0 p1 r32 hr32) (an5 h33 (an4 h34 tv))) ?_
        exact jD true hm Conv.eqK
       ·replace hm := Bb h34 hm
        refine RD hnt (nn 2 (o26 [] true r32 :: nn 6 (pF :: nn 4 (pF :: [])))) [9,29] [(65,pB (decide (p0.next > 2147483647)))] [] [] (an (Zp p0 p1 r32 hr32) (an5 h33 (an4 h34 tv))) ?_
        exact jD (decide (p0.next > 2147483647)) hm Conv.eqK
 ·rcases bt (!r1) with h2 | h2
  ·replace hm := Ba h2 hm
   refine RD hnt (.no :: o10 [] true r1 :: nn 2 (sk 3 (pT :: []))) [] [(18,pB true)] [] [] (an (Gd p0 r1 hr1) (an4 h2 tv)) ?_
   exact jD true hm Conv.eqK
  ·replace hm := Bb h2 hm
   obtain ⟨r3,hr3,hm⟩ := bo hm
   refine RD hnt (.no :: o10 [] true r1 :: nn 3 (o12 [] true r3 :: .no :: pF :: [])) [] [(18,pB (!r3))] [] [] (an (Gd p0 r1 hr1) (an2 h2 (an (Aek p2 r3 hr3) (an2 h2 tv)))) ?_
   exact jD (!r3) hm Conv.eqK
abbrev o25 (ks : List Nat) (b : Bool) (RES : Af × Int × Int) : Orc := .call 73 ks b (.tup [.agg [ow 0 RES.1.nodes.length,pI RES.1.next],pI RES.2.1,pI RES.2.2]) [] [Ac RES.1.nodes]

theorem Mb (p0 : Aa) (RES : Aa) (hm : Lj p0 = some RES) : Spec Tryz.prog 47 [.p (.agg (Ab p0))] [] (.agg [ow 0 RES.tree.nodes.length,pI RES.tree.next,ow 1 RES.tasks.length,pI RES.next]) [] [Ac RES.tree.nodes,Ae RES.tasks] := by
 unfold Lj at hm
 refine SO Tryz.func47 rfl rfl [(0,.p (.agg (Ab p0)))] [] ?_
 intro cx hnt
 refine Sq (RK hnt (nn 2 []) [(1,rr 1008),(2,rr 1016)] [(1008,bx (pm (Ab p0))),(1016,bx [.p (.sl .nil 0 0 (fun _ => [])),pI 0,.p (.sl .nil 0 0 (fun _ => [])),pI 0])] tv ?_)
 obtain ⟨r1,hr1,hm⟩ := bo hm
 obtain ⟨g2,hm⟩ := go1 hm
 refine Sq (RN hnt (nn 2 (o27 [] true r1 :: nn 7 [])) [(2,rr 1016)] [(1016,bx [ow 1040 r1.nodes.length,pI r1.next,ow 1064 p0.tasks.length,pI p0.next]),(1040,ob0 (Ac r1.nodes)),(1064,ob0 (Ae p0.tasks))] [] [(1064,.row 4 p0.tasks.length (Kj p0.tasks))] (an (Xe p0.tree r1 hr1) (an (by omega : p0.tasks.length * 32 ≤ 140737488355328) tv)) (by kernel_rfl) .nil (.cons rfl (BLe.typed RowIs.elems) .nil) ?_)
 obtain rfl := sj hm
 exact DW.ret (Ai [Ac r1.nodes,Ae p0.tasks] [1040,1064] (.agg [ow 0 r1.nodes.length,pI r1.next,ow 1 p0.tasks.length,pI p0.next]))
abbrev o28 (ks : List Nat) (b : Bool) (RES : Aa) : Orc := .call 47 ks b (.agg [ow 0 RES.tree.nodes.length,pI RES.tree.next,ow 1 RES.tasks.length,pI RES.next]) [] [Ac RES.tree.nodes,Ae RES.tasks]

theorem Adp (p0 : Aa) (p1 : Int) (p2 : ByteArray) (RES : Aa × Int × Int) (hm : Sy p0 p1 p2 = some RES) : Spec Tryz.prog 29 [.p (.agg (Ab p0)),pI p1,pS p2] [] (.tup [.agg [ow 0 RES.1.tree.nodes.length,pI RES.1.tree.next,ow 1 RES.1.tasks.length,pI RES.1.next],pI RES.2.1,pI RES.2.2]) [] [Ac RES.1.tree.nodes,Ae RES.1.tasks] := by
 unfold Sy at hm
 refine SO Tryz.func29 rfl rfl [(0,.p (.agg (Ab p0))),(1,pI p1),(2,pS p2)] [] ?_
 intro cx hnt
 refine Sq (RD hnt (nn 4 []) [0] [(3,rr 1024),(6,rr 1048)] [] [(1024,bx (pm (Ab p0))),(1048,bx [.p (.sl .nil 0 0 (fun _ => [])),pI 0,.p (.sl .nil 0 0 (fun _ => [])),pI 0])] tv ?_)
 obtain ⟨r1,hr1,hm⟩ := bo hm
 refine Sq (Sq (RD hnt (.no :: o7 [] true r1 :: .no :: []) [] [(15,pB (!r1))] [] [] (an (Ib p0 r1 hr1) tv) ?_))
 refine Ag hm ?_ ?_
 ·intro h2 hm
  refine Sq (RD hnt (nn 4 []) [1,2,3,15] [(7,pI 0),(8,pI 1)] [1024] [] tv ?_)
  refine DW.cv [] [] [] [(1048,bx [ow 100000 0,pI 0,ow 100001 0,pI 0]),(100000,ob0 (Ac [])),(100001,ob0 (Ae []))] (Conv.ads [(.o 1048 0,100000,6,elems Ak As []),(.o 1048 2,100001,4,elems Ao Ax [])]) ?_
  obtain rfl := sj hm
  exact DW.ret (Ai [Ac [],Ae []] [100000,100001] (.tup [.agg [ow 0 0,pI 0,ow 1 0,pI 0],pI 0,pI 1]))
 ·intro h2 hm
  refine Sk ?_
  obtain ⟨r3,hr3,hm⟩ := bo hm
  refine Sq (RD hnt (nn 4 (o25 [] true r3 :: nn 8 [])) [1,2,15] [(9,rr 1072),(10,pI r3.2.1),(11,pI r3.2.2)] [] [(1072,bx [ow 1176 r3.1.nodes.length,pI r3.1.next]),(1176,ob0 (Ac r3.1.nodes))] (an (Agf p0.tree p1 p2 r3 hr3) tv) ?_)
  refine Sq (Sq (RD hnt (nn 2 []) [] [(27,pB (r3.2.2 != 0))] [] [] tv ?_))
  refine Ag hm ?_ ?_
  ·intro h4 hm
   refine Sq (RD hnt (nn 5 []) [3,9,10,11,27] [(7,pI 0),(8,pI r3.2.2)] [1024,1072,1176] [] tv ?_)
   refine DW.cv [] [] [] [(1048,bx [ow 100000 0,pI 0,ow 100001 0,pI 0]),(100000,ob0 (Ac [])),(100001,ob0 (Ae []))] (Conv.ads [(.o 1048 0,100000,6,elems Ak As []),(.o 1048 2,100001,4,elems Ao Ax [])]) ?_
   obtain rfl := sj hm
   exact DW.ret (Ai [Ac [],Ae []] [100000,100001] (.tup [.agg [ow 0 0,pI 0,ow 1 0,pI 0],pI 0,pI r3.2.2]))
  ·intro h4 hm
   refine Sk ?_
   obtain ⟨r5,hr5,hm⟩ := bo hm
   refine Sq (RD hnt (.no :: o28 [] true r5 :: nn 2 []) [3,11,27] [(12,rr 1096)] [1024] [(1096,bx [ow 1248 r5.tree.nodes.length,pI r5.tree.next,ow 1249 r5.tasks.length,pI r5.next]),(1248,ob0 (Ac r5.tree.nodes)),(1249,ob0 (Ae r5.tasks))] (an (Mb p0 r5 hr5) tv) ?_)
   refine Sq (RD hnt (nn 3 []) [9] [] [1072,1248] [(1096,bx [ow 1176 r3.1.nodes.length,pI r3.1.next,ow 1249 r5.tasks.length,pI r5.next])] tv ?_)
   refine Sq (RD hnt (nn 5 []) [10,12] [(7,pI r3.2.1),(8,pI 0)] [1096] [(1048,bx [ow 1176 r3.1.nodes.length,pI r3.1.next,ow 1249 r5.tasks.length,pI r5.next])] tv ?_)
   obtain rfl := sj hm
   exact DW.ret (Ai [Ac r3.1.nodes,Ae r5.tasks] [1176,1249] (.tup [.agg [ow 0 r3.1.nodes.length,pI r3.1.next,ow 1 r5.tasks.length,pI r5.next],pI r3.2.1,pI 0]))
abbrev o6 (ks : List Nat) (b : Bool) (RES : Aa × Int × Int) : Orc := .call 29 ks b (.tup [.agg [ow 0 RES.1.tree.nodes.length,pI RES.1.tree.next,ow 1 RES.1.tasks.length,pI RES.1.next],pI RES.2.1,pI RES.2.2]) [] [Ac RES.1.tree.nodes,Ae RES.1.tasks]

theorem AiH (p0 : Ah) (p1 : Int) (RES : Bool) (hm : Adw p0 p1 = some RES) : Spec Tryz.prog 121 [.p (.agg (Ak p0)),rr 0] [.box [pI p1]] (pB RES) [.box [pI p1]] [] := by
 unfold Adw at hm
 refine SO Tryz.func121 rfl rfl [(0,.p (.agg (Ak p0))),(1,rr 0)] [(0,bx [pI p1])] ?_
 intro cx hnt
 refine Sq (RD hnt (nn 2 []) [0] [(2,rr 1016)] [] [(1016,bx (pm (Ak p0)))] tv ?_)
 refine Sq (RK hnt (nn 5 []) [(3,pB (p0.id == p1))] [(0,bx [pI p1])] tv ?_)
 obtain rfl := sj hm
 exact DW.ret (Ai [.box [pI p1]] [] (pB (p0.id == p1)))

theorem Tx (p0 : List Ah) (p1c0 : Int) (RES : Int) (hm : Fn p0 p1c0 = some RES) : Spec Tryz.prog 120 [.p (Bg p0),.fn 121 [rr 0]] [.box [pI p1c0]] (pI RES) [.box [pI p1c0]] [] := by
 unfold Fn at hm
 refine SO Tryz.func120 rfl rfl [(0,.p (Bg p0)),(1,.fn 121 [rr 0])] [(0,bx [pI p1c0])] ?_
 intro cx hnt
 refine Sq (RD hnt (.no :: []) [] [] [] [] tv ?_)
 refine Sq (Sq (RD hnt (nn 3 []) [] [(7,pI ((p0.length : Nat) : Int)),(8,pI 0)] [] [] tv ?_))
 refine Bk ?_
 obtain ⟨hc1,hm⟩ := go1 hm
 refine DW.rangeO (fun (k1 : Nat) (s1 : Unit) => Am [(0,.p (Bg p0)),(1,.fn 121 [rr 0]),(7,pI ((p0.length : Nat) : Int)),(8,pI ((k1 : Nat) : Int))] [(0,bx [pI p1c0])]) As hm Conv.eqK ?_
 intro k1 s1 n1 hk1 hs1 he1
 refine Sq (RD hnt (.no :: []) [] [(9,pB (decide (((k1 : Nat) : Int) < ((p0.length : Nat) : Int))))] [] [] tv ?_)
 refine Sq (Bx (decide (((k1 : Nat) : Int) < ((p0.length : Nat) : Int))) ?_ ?_)
 ·intro h9
  have hlt1 : k1 < p0.length := by have := of_decide_eq_true h9; omega
  have hm := hs1 hlt1
  unfold Lt at hm
  refine Sk ?_
  refine Sq (Bk ?_)
  refine Sq (RD hnt (nn 2 []) [9] [(5,pI ((k1 : Nat) : Int))] [] [] tv ?_)
  obtain ⟨r10,hr10,hm⟩ := bo hm
  refine Sq (RD hnt (nn 5 (.call 121 [0] true (pB r10) [.box [pI p1c0]] [] :: [])) [] [(16,pB r10)] [] [] (an (nn0 k1) (an (ltc hlt1) (an (AiH (p0.getD k1 (default : Ah)) p1c0 r10 hr10) (an tv tv)))) ?_)
  refine Ag hm ?_ ?_
  ·intro h11 hm
   refine Sq (RK hnt (nn 2 []) [(4,pI ((k1 : Nat) : Int))] [(0,bx [pI p1c0])] tv ?_)
   obtain rfl := sj hm
   exact DW.ret (Ai [.box [pI p1c0]] [] (pI ((k1 : Nat) : Int)))
  ·intro h11 hm
   refine Sk ?_
   refine DW.done ?_
   show DW _ _ _ _ _
   refine RD hnt (nn 2 []) [5,16] [(8,pI (w64 (((k1 : Nat) : Int) + 1)))] [] [] tv ?_
   exact jD () ⟨hlt1,hm⟩ (Conv.tp [(8,pI (w64 (((k1 : Nat) : Int) + 1)))] [] (by kernel_rfl) (.cons rfl (.of_eq (congrArg pI (Bl hlt1 hc1))) .nil) .nil)
 ·intro h9
  have hge1 : ¬ k1 < p0.length := by have := of_decide_eq_false h9; omega
  have hm := he1 hge1
  unfold Lv at hm
  refine DW.exit ?_
  refine Ar ?_
  refine Au ?_
  refine Ap ?_
  show DW _ _ _ _ _
  refine Sq (RK hnt (.no :: []) [(4,pI (-1))] [(0,bx [pI p1c0])] tv ?_)
  obtain rfl := sj hm
  exact DW.ret (Ai [.box [pI p1c0]] [] (pI (-1)))

theorem Fz (p0 : Af) (p1 : Int) (RES : Int) (hm : En p0 p1 = some RES) : Spec Tryz.prog 75 [.p (.agg (Aj p0)),pI p1] [] (pI RES) [] [] := by
 unfold En at hm
 refine SO Tryz.func75 rfl rfl [(0,.p (.agg (Aj p0))),(1,pI p1)] [] ?_
 intro cx hnt
 refine Sq (RK hnt (nn 3 []) [(2,rr 1016),(3,rr 1024)] [(1016,bx (pm (Aj p0))),(1024,bx [pI p1])] tv ?_)
 obtain ⟨r1,hr1,hm⟩ := bo hm
 refine Sq (RK hnt (nn 3 (.call 120 [1024] true (pI r1) [.box [pI p1]] [] :: .no :: [])) [(4,pI r1)] [] (an (Tx p0.nodes p1 r1 hr1) (an tv tv)) ?_)
 obtain rfl := sj hm
 exact DW.ret (Ai [] [] (pI r1))
abbrev o30 (ks : List Nat) (b : Bool) (RES : Int) : Orc := .call 75 ks b (pI RES) [] []

theorem AkA (p0 : Ah) (RES : Bool) (hm : Add p0 = some RES) : Spec Tryz.prog 122 [.p (.agg (Ak p0))] [] (pB RES) [] [] := by
 unfold Add at hm
 refine SO Tryz.func122 rfl rfl [(0,.p (.agg (Ak p0)))] [] ?_
 intro cx hnt
 refine Sq (RK hnt (nn 2 []) [(1,rr 1008)] [(1008,bx (pm (Ak p0)))] tv ?_)
 refine Sq (DW.regJ (sl2 := [(2,pB ((((p0.id == 1) && (p0.parent == 0)) && (Cz p0.name ByteArray.empty)) && (p0.kind == 0)))]) (ob2 := []) ?_ ?_)
 ·rcases bt (p0.id == 1) with h1 | h1
  ·rcases bt (p0.parent == 0) with h2 | h2
   ·rcases bt (Cz p0.name ByteArray.empty) with h3 | h3
    ·exact RT hnt (nn 7 (pT :: nn 4 (pT :: nn 4 (pT :: .no :: [])))) [(2,pB (p0.kind == 0))] (an4 h1 (an4 h2 (an4 h3 tv))) (by kernel_rfl) (.cons rfl (.of_eq (by rw [h1,h2,h3]; try rfl)) .nil)
    ·exact RT hnt (nn 7 (pT :: nn 4 (pT :: .no :: sk 3 (pF :: .no :: [])))) [(2,pB false)] (an4 h1 (an4 h2 (an4 h3 tv))) (by kernel_rfl) (.cons rfl (.of_eq (by rw [h1,h2,h3]; try rfl)) .nil)
   ·exact RT hnt (nn 7 (pT :: .no :: sk 3 (pF :: .no :: sk 3 (pF :: .no :: [])))) [(2,pB false)] (an4 h1 (an4 h2 (an4 ff tv))) (by kernel_rfl) (.cons rfl (.of_eq (by rw [h1,h2]; try rfl)) .nil)
  ·exact RT hnt (nn 4 (sk 3 (pF :: .no :: sk 3 (pF :: .no :: sk 3 (pF :: .no :: []))))) [(2,pB false)] (an4 h1 (an2 ff (an6 ff tv))) (by kernel_rfl) (.cons rfl (.of_eq (by rw [h1]; try rfl)) .nil)
 ·refine DW.ret ?_
  obtain rfl := sj hm
  exact Ai [] [] (pB ((((p0.id == 1) && (p0.parent == 0)) && (Cz p0.name ByteArray.empty)) && (p0.kind == 0)))
abbrev o34 (ks : List Nat) (b : Bool) (RES : Bool) : Orc := .call 122 ks b (pB RES) [] []
end Go.Dm

