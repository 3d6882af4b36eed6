/- Texts of the proof of DelegateIsolates: the data machine, the models of the Go functions, their contracts. -/
import Derived.Test.YtonaidnipimjgabGreatDelegateIsolatesA2
import Derived.Test.YtonaidnipimjgabGreatProg
import Derived.Test.YtonaidnipimjgabGreatDelegateIsolatesA1
set_option linter.unusedVariables false
set_option linter.unusedSimpArgs false
/- Plain theory, part 24: kinds of groups, domains, what fits. -/
namespace Go.Dm
def As (t : Ae) (a : Int) : Ag := (Fn t a).getD zN
def Cu (t : Ae) (a : Int) : Bool := (As t a).kind == 1
def Lz (t : Ae) (id : Int) : Bool := ((upT t id).find? (Cu t)).elim false (fun x => x != id)
def Ei (t : Ae) (id : Int) : Int := ((upT t id).find? (fun a => !Cu t a)).getD 0
def Db (t : Ae) (id : Int) : Int := if !Aw t id then 0 else if Cu t id then 2 else if Lz t id then 3 else if (En t id).any (Cu t) then 1 else 0
theorem Ua {t : Ae} (w : WfT t) (id : Int) : Cn t id = some (As t id,Aw t id) := by
 rw [Ph w]
 unfold As Aw
 cases Fn t id <;> rfl
theorem AaH {t : Ae} (w : WfT t) (id : Int) : Eg t id = some (As t id,Aw t id) := by
 have := w.len2
 rw [AcY t id (by omega)]
 unfold As Aw
 cases Fn t id <;> rfl
theorem find6 {h : Aa} (w : WfH h) (id : Int) : Hj h id = some ((Bg h.tasks id).getD zK,(Bg h.tasks id).isSome) := by
 rw [Vl w]
 cases Bg h.tasks id <;> rfl
theorem findC {h : Aa} (w : WfH h) (id : Int) : Oh h id = some ((Bg h.tasks id).getD zK,(Bg h.tasks id).isSome) := by
 have := w.len
 rw [Aes h id (by omega)]
 cases Bg h.tasks id <;> rfl
theorem Pg {t : Ae} (w : WfT t) {x : Ag} (hx : x ∈ t.nodes) : As t x.id = x := by
 unfold As
 rw [getN_of w.sorted hx]
 rfl
theorem Ais {t : Ae} {id : Int} (h : Aw t id = false) : As t id = zN := by
 unfold As Aw at *
 cases hg : Fn t id with
 | none => rfl
 | some x => rw [hg] at h; simp at h
theorem Nc {t : Ae} {id : Int} (h : Aw t id = true) : (As t id).id = id ∧ As t id ∈ t.nodes := by
 unfold As Aw at *
 cases hg : Fn t id with
 | none => rw [hg] at h; simp at h
 | some x => exact ⟨(Qo hg).2,(Qo hg).1⟩
theorem ancN_up {t : Ae} (id : Int) : ancN t id = upT t id := by
 unfold ancN
 cases hg : Aw t id with
 | true => rfl
 | false =>
  have : upT t id = [] := AbE fun y hy e => by
   have := hasN_iff.mpr ⟨y,by simpa using hy,e⟩
   rw [hg] at this
   simp at this
  rw [this]
  rfl
theorem up_not {t : Ae} {id : Int} (h : Aw t id = false) : upT t id = [] := AbE fun y hy e => by
 have := hasN_iff.mpr ⟨y,by simpa using hy,e⟩
 rw [h] at this
 simp at this
theorem AhR {t : Ae} (w : WfT t) {id : Int} (h : Aw t id = true) : upT t id = id :: upT t (As t id).parent := by
 obtain ⟨e,hx⟩ := Nc h
 have := w.up hx
 rw [e] at this
 exact this
theorem Ajv {t : Ae} (w : WfT t) : Aw t 0 = false := by
 cases h : Aw t 0 with
 | false => rfl
 | true =>
  obtain ⟨x,hx,e⟩ := hasN_iff.mp h
  have := w.id_pos hx
  omega
theorem Adr {t : Ae} (w : WfT t) {x : Ag} (hx : x ∈ t.nodes) (h1 : x.id ≠ 1) : Aw t x.parent = true := by
 rcases w.p.par x hx with ⟨h,_⟩ | ⟨_,_,⟨z,hz,e⟩,_⟩
 ·exact absurd h h1
 ·exact hasN_iff.mpr ⟨z,hz,e⟩
theorem AcB {t : Ae} (w : WfT t) {x : Ag} (hx : x ∈ t.nodes) (h1 : x.id = 1) : x.parent = 0 ∧ x.kind = 0 := by
 rcases w.p.par x hx with ⟨_,r⟩ | ⟨h,h2,_⟩
 ·exact ⟨r.parent,r.kind⟩
 ·omega
theorem Vm {t : Ae} (w : WfT t) (id : Int) : Iy t id = some (Ei t id,((upT t id).find? (fun a => !Cu t a)).isSome) := by
 unfold Iy
 rw [Qy w,ancN_up,Option.bind_some]
 have hu := AhF w id
 rw [if_pos (by omega),Hw (p := fun a => !Cu t a) (f := fun a => (a,true)) (z := (0,false)) (fun k x n => by
  unfold Vw
  rw [Ua w]
  simp only [Option.bind_some]
  rfl) rfl]
 unfold Ei
 cases (upT t id).find? (fun a => !Cu t a) <;> rfl
theorem Pm {t : Ae} (w : WfT t) (id : Int) : Hl t id = some (Ei t id) := by
 unfold Hl
 rw [Gr w,Option.bind_some]
 have hu := AhF w id
 rw [if_pos (by omega),Hw (p := fun a => !Cu t a) (f := fun a => a) (z := 0) (fun k x n => by
  unfold Us
  rw [AaH w]
  simp only [Option.bind_some]
  rfl) rfl]
 unfold Ei
 cases (upT t id).find? (fun a => !Cu t a) <;> rfl
theorem Ob {t : Ae} (w : WfT t) (id : Int) : Gp t id = some (Lz t id) := by
 unfold Gp
 rw [Gr w,Option.bind_some]
 have hu := AhF w id
 rw [if_pos (by omega),Hw (p := Cu t) (f := fun a => a != id) (z := false) (fun k x n => by
  unfold Tl
  rw [AaH w]
  simp only [Option.bind_some]
  rfl) rfl]
 rfl
theorem inv_step {t : Ae} (w : WfT t) {id : Int} (h : Aw t id = true) (hk : Cu t id = false) : Lz t id = (Aw t (As t id).parent && (Cu t (As t id).parent || Lz t (As t id).parent)) := by
 obtain ⟨e,hx⟩ := Nc h
 unfold Lz
 rw [AhR w h,List.find?_cons,hk]
 simp only
 cases hp : Aw t (As t id).parent with
 | false =>
  rw [up_not hp]
  rfl
 | true =>
  rw [AhR w hp,List.find?_cons]
  cases hq : Cu t (As t id).parent with
  | true =>
   have := w.par_lt hx
   simp
   omega
  | false =>
   simp only [Bool.true_and,Bool.false_or]
   cases hf : (upT t (As t (As t id).parent).parent).find? (Cu t) with
   | none => rfl
   | some y =>
    have hy := List.mem_of_find?_eq_some hf
    obtain ⟨q,hq2⟩ := Nc hp
    have h0 : Aw t (As t (As t id).parent).parent = true := by
     obtain ⟨z,hz,ez⟩ := Yr hy
     exact hasN_iff.mpr ⟨z,hz,ez⟩
    obtain ⟨q3,hq4⟩ := Nc h0
    rw [← q3] at hy
    have h1 := up_le w _ hq4 _ hy
    have h2 := w.par_lt hq2
    have h3 := w.par_lt hx
    rw [q3] at h1
    have a1 : (y != id) = true := by rw [bne_iff_ne]; omega
    have a2 : (y != (As t id).parent) = true := by rw [bne_iff_ne]; omega
    show (y != id) = (y != (As t id).parent)
    rw [a1,a2]
theorem Aat {t : Ae} (w : WfT t) {id : Int} (h : Aw t id = true) (b : Bool) : Kj t id b = some (if b then 3 else if (En t id).any (Cu t) then 1 else 0) := by
 unfold Kj
 cases b with
 | true => rfl
 | false =>
  simp only [Bool.false_eq_true,if_false]
  rw [Xj w,if_pos h,Option.bind_some]
  have := AeA t id
  have := w.len2
  rw [if_pos (by omega),Hw (p := Cu t) (f := fun _ => (1 : Int)) (z := (0 : Int)) (fun k x n => by
   unfold Zo
   rw [Ua w]
   simp only [Option.bind_some]
   rfl) rfl]
  cases hf : (En t id).find? (Cu t) with
  | none =>
   rw [List.find?_eq_none] at hf
   have : (En t id).any (Cu t) = false := by
    rw [List.any_eq_false]
    exact hf
   rw [this]
   rfl
  | some y =>
   have : (En t id).any (Cu t) = true := List.any_eq_true.mpr ⟨y,List.mem_of_find?_eq_some hf,List.find?_some hf⟩
   rw [this]
   rfl
theorem AjN {t : Ae} (w : WfT t) : ∀ (n : Nat) (id : Int),id.toNat < n → Hx n t id = some (Db t id) := by
 intro n
 induction n with
 | zero => intro id h; omega
 | succ n ih =>
  intro id hn
  rw [Hx]
  unfold Pd
  rw [Ua w,Option.bind_some]
  unfold Db
  cases h : Aw t id with
  | false => rfl
  | true =>
   simp only [Bool.not_true,Bool.false_eq_true,if_false]
   obtain ⟨e,hx⟩ := Nc h
   cases hk : Cu t id with
   | true =>
    have hk' : ((As t id).kind == 1) = true := hk
    rw [hk']
    rfl
   | false =>
    have hk' : ((As t id).kind == 1) = false := hk
    rw [hk']
    simp only [Bool.false_eq_true,if_false]
    rw [Ua w,Option.bind_some,inv_step w h hk]
    simp only
    cases hp : Aw t (As t id).parent with
    | false =>
     simp only [Bool.false_eq_true,if_false,Bool.false_and]
     rw [Aat w h]
     rfl
    | true =>
     obtain ⟨q,hq2⟩ := Nc hp
     simp only [if_true,Bool.true_and]
     cases hq : Cu t (As t id).parent with
     | true =>
      have hq' : ((As t (As t id).parent).kind == 1) = true := hq
      rw [hq']
      simp only [if_true,Bool.true_or]
      exact Aat w h true
     | false =>
      have hq' : ((As t (As t id).parent).kind == 1) = false := hq
      rw [hq']
      simp only [Bool.false_eq_true,if_false,Bool.false_or]
      have h1 := w.par_lt hx
      have h2 := w.id_pos hq2
      rw [q] at h2 ⊢
      rw [ih _ (by omega),Option.bind_some,Aat w h]
      have : (Db t (As t id).parent == 3) = Lz t (As t id).parent := by
       unfold Db
       rw [hp,hq]
       simp only [Bool.not_true,Bool.false_eq_true,if_false]
       cases Lz t (As t id).parent with
       | true => rfl
       | false =>
        simp only [Bool.false_eq_true,if_false]
        split <;> rfl
      rw [this]
theorem Rs {t : Ae} (w : WfT t) (id : Int) : Jq t id = some (Db t id) := by
 unfold Jq
 by_cases h : id.toNat < Fu
 ·exact AjN w Fu id h
 ·have hid : Aw t id = false := by
   cases hh : Aw t id with
   | false => rfl
   | true =>
    obtain ⟨x,hx,e⟩ := hasN_iff.mp hh
    have h1 := w.next x hx
    have h2 := w.nextLe
    rw [Nu] at h
    omega
  have : Fu = 1099511627775 + 1 := rfl
  rw [this,Hx]
  unfold Pd Db
  rw [Ua w,Option.bind_some,hid]
  rfl
theorem type_inv {t : Ae} {id : Int} : Db t id = 3 ↔ (Aw t id = true ∧ Cu t id = false ∧ Lz t id = true) := by
 unfold Db
 cases Aw t id <;> cases Cu t id <;> cases Lz t id <;> simp <;> split <;> simp
def Wv (t : Ae) (x : Ag) : Int := if x.id == 1 then 31 else (As t x.parent).control
def Hq (t : Ae) (x : Ag) : Int := if x.kind == 1 then Ax .i64 (Wv t x) 6 else Wv t x
theorem AiI : (List.range 32).all (fun c => Ax .i64 (Ax .i64 (c : Int) 6) 6 == Ax .i64 (c : Int) 6) = true := by decide +kernel
theorem AjP {c : Int} (h0 : 0 ≤ c) (h1 : c ≤ 31) : Ax .i64 (Ax .i64 c 6) 6 = Ax .i64 c 6 := by
 have := List.all_eq_true.mp AiI c.toNat (by rw [List.mem_range]; omega)
 rw [show ((c.toNat : Nat) : Int) = c by omega] at this
 simpa using this
theorem AhH {t : Ae} (w : WfT t) (id : Int) : 0 ≤ (As t id).control ∧ (As t id).control ≤ 31 := by
 cases h : Aw t id with
 | false =>
  rw [Ais h]
  simp [zN]
 | true =>
  have v := w.p.val _ (Nc h).2
  exact ⟨v.c1,v.c2⟩
theorem Adi {t : Ae} (w : WfT t) (x : Ag) : Po t x = some (Hq t x) := by
 have hJ : Mr x (Wv t x) = some (Hq t x) := by
  unfold Mr Pw Hq
  cases (x.kind == 1) <;> rfl
 unfold Po
 by_cases h : x.id = 1
 ·have h1 : (x.id != 1) = false := by simp [h]
  have h2 : (x.id == 1) = true := by simp [h]
  have ht : Wv t x = 31 := by
   unfold Wv
   rw [h2]
   rfl
  rw [h1,if_neg (by simp),← ht]
  exact hJ
 ·have h1 : (x.id != 1) = true := by simpa using h
  have h2 : (x.id == 1) = false := by simpa using h
  have ht : Wv t x = (As t x.parent).control := by
   unfold Wv
   rw [h2]
   rfl
  rw [h1,if_pos rfl,AaH w,Option.bind_some]
  simp only
  rw [← ht]
  exact hJ
theorem Agm {t : Ae} (w : WfT t) {x : Ag} (hx : x ∈ t.nodes) : Ir t x.id = some (Hq t x) := by
 unfold Ir
 rw [Ua w,Option.bind_some,Pg w hx,Zz hx]
 simp only [Bool.not_true,Bool.false_eq_true,if_false]
 unfold Ig Jx Hq
 by_cases h : x.id = 1
 ·have h1 : (x.id != 1) = false := by simp [h]
  have h2 : (x.id == 1) = true := by simp [h]
  have ht : Wv t x = 31 := by
   unfold Wv
   rw [h2]
   rfl
  rw [h1,if_neg (by simp),ht]
  cases (x.kind == 1) <;> simp
 ·have h1 : (x.id != 1) = true := by simpa using h
  have h2 : (x.id == 1) = false := by simpa using h
  have ht : Wv t x = (As t x.parent).control := by
   unfold Wv
   rw [h2]
   rfl
  rw [h1,if_pos rfl]
  unfold Rv
  rw [Ua w,Option.bind_some,Pg w hx,Zz hx]
  simp only [Bool.not_true,Bool.false_or,h2,Bool.false_eq_true,if_false]
  rw [Ua w,Option.bind_some,ht]
  simp only
  cases (x.kind == 1) with
  | false => simp
  | true =>
   have := AhH w x.parent
   simp only [if_true,Option.bind_some]
   rw [AjP this.1 this.2]
structure SndN (h : Aa) (x : Ag) : Prop where
 av : Ax .i64 x.control (Hq h.tree x) = 0
 busy : x.id ≠ 1 → kand .i64 x.control 6 ≠ 0 → tasksK h x.id = []
structure Xc (h : Aa) : Prop where
 wf : WfH h
 snd : ∀ x ∈ h.tree.nodes,SndN h x
structure FitN (h : Aa) (x : Ag) : Prop where
 inv : Db h.tree x.id = 3 → x.control = 0 ∧ tasksK h x.id = []
 thr : x.kind = 1 → (x.parent ≠ 1 → kand .i64 (As h.tree x.parent).control 6 = 0) ∧ Db h.tree x.parent ≠ 3
def Ih (h : Aa) (x : Am) : Am := (Bg h.tasks x.process).getD zK
structure Bi (h : Aa) : Prop where
 snd : Xc h
 dom : ∀ x ∈ h.tasks,Ei h.tree x.group = Ei h.tree (Ih h x).group
 nod : ∀ x ∈ h.tree.nodes,FitN h x
theorem Na {α : Type} {P : α → Prop} {pre : List α} {x : α} (h1 : ∀ y ∈ pre,P y) (h2 : P x) : ∀ y ∈ pre ++ [x],P y := by
 intro y hy
 rcases List.mem_append.mp hy with hy | hy
 ·exact h1 y hy
 ·obtain rfl : y = x := by simpa using hy
  exact h2
theorem len_pos_iff {l : List Int} : decide (((l.length : Nat) : Int) > 0) = false ↔ l = [] := by
 rw [decide_eq_false_iff_not]
 constructor
 ·intro h
  exact List.length_eq_zero_iff.mp (by omega)
 ·rintro rfl
  simp
theorem AhJ (h : Aa) : Ok (Pf h) (fun b => b = true ↔ Xc h) := by
 have bad : ¬ Xc h → Ok (some false) (fun b => b = true ↔ Xc h) := fun hn => Ok.ret ⟨fun e => by simp at e,fun w => absurd w hn⟩
 unfold Pf
 refine Ok.bind (Aap h) fun b hb => ?_
 refine Ok.ite (fun c => bad fun s => ?_) fun c => ?_
 ·rw [hb.mpr s.wf] at c
  simp at c
 have w := hb.mp (by simpa using c)
 have l2 := w.tree.len2
 refine Ok.guard (by omega) ?_
 refine Ok.range (fun pre _ => ∀ x ∈ pre,SndN h x) (by simp) ?_ ?_
 ·intro pre x post _ n he hI hn
  have hx : x ∈ h.tree.nodes := by rw [he]; simp
  unfold Wr Jc
  refine Ok.step (Agm w.tree hx) ?_
  refine Ok.ite (fun c => bad fun s => ?_) fun c1 => ?_
  ·rw [(s.snd x hx).av] at c
   simp at c
  have c1 : Ax .i64 x.control (Hq h.tree x) = 0 := by simpa using c1
  refine Ok.ite (fun c2 => ?_) fun c2 => ?_
  ·have c2 : x.id ≠ 1 := by simpa using c2
   refine Ok.ite (fun c3 => ?_) fun c3 => ?_
   ·have c3 : kand .i64 x.control 6 ≠ 0 := by simpa using c3
    refine Ok.step (Sp w x.id) ?_
    refine Ok.ite (fun c4 => bad fun s => ?_) fun c4 => ?_
    ·rw [(s.snd x hx).busy c2 c3] at c4
     simp at c4
    ·exact hn () (Na hI ⟨c1,fun _ _ => len_pos_iff.mp c4⟩)
   ·have c3 : kand .i64 x.control 6 = 0 := by simpa using c3
    exact hn () (Na hI ⟨c1,fun _ h => absurd c3 h⟩)
  ·have c2 : x.id = 1 := by simpa using c2
   exact hn () (Na hI ⟨c1,fun h => absurd c2 h⟩)
 ·intro _ hI
  exact Ok.ret ⟨fun _ => ⟨w,hI⟩,fun _ => rfl⟩
theorem Aax {h : Aa} (r : RawH h) : Ok (Li h) (fun b => b = true ↔ Xc h) := by
 have bad : ¬ Xc h → Ok (some false) (fun b => b = true ↔ Xc h) := fun hn => Ok.ret ⟨fun e => by simp at e,fun w => absurd w hn⟩
 unfold Li
 refine Ok.bind (Acp h r.m) fun b hb => ?_
 refine Ok.ite (fun c => bad fun s => ?_) fun c => ?_
 ·rw [hb.mpr s.wf] at c
  simp at c
 have w := hb.mp (by simpa using c)
 have l1 := w.len
 have l2 := w.tree.len2
 refine Ok.guard (by omega) ?_
 refine Ok.range (fun pre _ => ∀ x ∈ pre,SndN h x) (by simp) ?_ ?_
 ·intro pre x post _ n he hI hn
  have hx : x ∈ h.tree.nodes := by rw [he]; simp
  unfold Xw Lf
  refine Ok.step (Adi w.tree x) ?_
  refine Ok.ite (fun c => bad fun s => ?_) fun c1 => ?_
  ·rw [(s.snd x hx).av] at c
   simp at c
  have c1 : Ax .i64 x.control (Hq h.tree x) = 0 := by simpa using c1
  refine Ok.ite (fun c2 => ?_) fun c2 => ?_
  ·have c2 : x.id ≠ 1 := by simpa using c2
   refine Ok.ite (fun c3 => ?_) fun c3 => ?_
   ·have c3 : kand .i64 x.control 6 ≠ 0 := by simpa using c3
    refine Ok.step (Ss w.sorted (by omega) x.id) ?_
    refine Ok.ite (fun c4 => bad fun s => ?_) fun c4 => ?_
    ·rw [(s.snd x hx).busy c2 c3] at c4
     simp at c4
    ·exact hn () (Na hI ⟨c1,fun _ _ => len_pos_iff.mp c4⟩)
   ·have c3 : kand .i64 x.control 6 = 0 := by simpa using c3
    exact hn () (Na hI ⟨c1,fun _ h => absurd c3 h⟩)
  ·have c2 : x.id = 1 := by simpa using c2
   exact hn () (Na hI ⟨c1,fun h => absurd c2 h⟩)
 ·intro _ hI
  exact Ok.ret ⟨fun _ => ⟨w,hI⟩,fun _ => rfl⟩
theorem AkO {t : Ae} (w : WfT t) : As t 0 = zN := Ais (Ajv w)
theorem par_id {t : Ae} (w : WfT t) {x : Ag} (hx : x ∈ t.nodes) : (As t x.parent).id = x.parent := by
 by_cases h : x.id = 1
 ·rw [(AcB w hx h).1,AkO w]
  rfl
 ·exact (Nc (Adr w hx h)).1
theorem Re (h : Aa) : Ok (Gb h) (fun b => b = true ↔ Bi h) := by
 have bad : ¬ Bi h → Ok (some false) (fun b => b = true ↔ Bi h) := fun hn => Ok.ret ⟨fun e => by simp at e,fun w => absurd w hn⟩
 unfold Gb
 refine Ok.bind (AhJ h) fun b hb => ?_
 refine Ok.ite (fun c => bad fun s => ?_) fun c => ?_
 ·rw [hb.mpr s.snd] at c
  simp at c
 have snd := hb.mp (by simpa using c)
 have w := snd.wf
 have l1 := w.len
 have l2 := w.tree.len2
 refine Ok.guard (by omega) ?_
 refine Ok.range (fun pre _ => ∀ x ∈ pre,Ei h.tree x.group = Ei h.tree (Ih h x).group) (by simp) ?_ ?_
 ·intro pre x post _ n he hI hn
  have hx : x ∈ h.tasks := by rw [he]; simp
  unfold Zl
  refine Ok.step (find6 w x.process) (Ok.step (Vm w.tree _) (Ok.step (Vm w.tree _) ?_))
  refine Ok.ite (fun c => bad fun s => ?_) fun c => ?_
  ·have := s.dom x hx
   unfold Ih at this
   simp [this] at c
  ·refine hn () (Na hI ?_)
   unfold Ih
   simpa using c
 ·intro _ hdom
  unfold Zb
  refine Ok.guard (by omega) ?_
  refine Ok.range (fun pre _ => ∀ x ∈ pre,FitN h x) (by simp) ?_ ?_
  ·intro pre x post _ n he hI hn
   have hx : x ∈ h.tree.nodes := by rw [he]; simp
   have hJ18 : ∀ b : Bool,(b = true → ¬ Bi h) → (b = false → FitN h x) → Ok (Hr n b) (fun b => b = true ↔ Bi h) := by
    intro b b1 b2
    unfold Hr
    exact Ok.ite (fun c => bad (b1 c)) fun c => hn () (Na hI (b2 c))
   have hpid := par_id w.tree hx
   have hJ17 : ∀ b : Bool,(b = true → ¬ Bi h) → (b = false → (Db h.tree x.id = 3 → x.control = 0 ∧ tasksK h x.id = [])) → Ok (Je h x n (As h.tree x.parent,Aw h.tree x.parent) b) (fun b => b = true ↔ Bi h) := by
    intro b b1 b2
    unfold Je
    refine Ok.ite (fun c => bad (b1 c)) fun c => ?_
    have binv := b2 c
    simp only
    rw [hpid]
    refine Ok.ite (fun c1 => ?_) fun c1 => ?_
    ·have c1 : x.kind = 1 := by simpa using c1
     refine Ok.ite (fun c2 => ?_) fun c2 => ?_
     ·have c2 : x.parent ≠ 1 := by simpa using c2
      refine Ok.ite (fun c3 => ?_) fun c3 => ?_
      ·have c3 : kand .i64 (As h.tree x.parent).control 6 ≠ 0 := by simpa using c3
       exact hJ18 _ (fun _ s => c3 (((s.nod x hx).thr c1).1 c2)) (fun e => by simp at e)
      ·have c3 : kand .i64 (As h.tree x.parent).control 6 = 0 := by simpa using c3
       refine Ok.step (Rs w.tree _) (hJ18 _ (fun e s => ((s.nod x hx).thr c1).2 (by simpa using e)) fun e => ⟨binv,fun _ => ⟨fun _ => c3,by simpa using e⟩⟩)
     ·have c2 : x.parent = 1 := by simpa using c2
      refine Ok.step (Rs w.tree _) (hJ18 _ (fun e s => ((s.nod x hx).thr c1).2 (by simpa using e)) fun e => ⟨binv,fun _ => ⟨fun q => absurd c2 q,by simpa using e⟩⟩)
    ·have c1 : x.kind ≠ 1 := by simpa using c1
     exact hJ18 _ (fun e => by simp at e) fun _ => ⟨binv,fun q => absurd q c1⟩
   unfold Zn
   refine Ok.step (Ua w.tree _) (Ok.step (Rs w.tree _) ?_)
   refine Ok.ite (fun c1 => ?_) fun c1 => ?_
   ·have c1 : Db h.tree x.id = 3 := by simpa using c1
    refine Ok.ite (fun c2 => ?_) fun c2 => ?_
    ·have c2 : x.control ≠ 0 := by simpa using c2
     exact hJ17 _ (fun _ s => c2 ((s.nod x hx).inv c1).1) fun e => by simp at e
    ·have c2 : x.control = 0 := by simpa using c2
     refine Ok.step (Sp w _) (hJ17 _ (fun e s => ?_) fun e _ => ⟨c2,len_pos_iff.mp e⟩)
     rw [((s.nod x hx).inv c1).2] at e
     simp at e
   ·have c1 : Db h.tree x.id ≠ 3 := by simpa using c1
    exact hJ17 _ (fun e => by simp at e) fun _ q => absurd q c1
  ·intro _ hnod
   exact Ok.ret ⟨fun _ => ⟨snd,hdom,hnod⟩,fun _ => rfl⟩
theorem Ahn {h : Aa} (w : WfH h) {x : Ag} (hx : x ∈ h.tree.nodes) : Ok (Rk h x) (fun b => b = true ↔ FitN h x) := by
 have l1 := w.len
 have hself := Pg w.tree hx
 unfold Rk Lc Pb
 refine Ok.ite (fun c => ?_) fun c => ?_
 ·have c : x.kind ≠ 1 := by simpa using c
  have ht : Cu h.tree x.id = false := by
   unfold Cu
   rw [hself]
   simpa using c
  have hiff : Db h.tree x.id = 3 ↔ Lz h.tree x.id = true := by
   rw [type_inv,Zz hx,ht]
   simp
  have hfit : FitN h x ↔ (Lz h.tree x.id = true → x.control = 0 ∧ tasksK h x.id = []) := by
   constructor
   ·intro f e
    exact f.inv (hiff.mpr e)
   ·intro f
    exact ⟨fun e => f (hiff.mp e),fun e => absurd e c⟩
  refine Ok.step (Ob w.tree x.id) ?_
  refine Ok.ite (fun c1 => Ok.ret ?_) fun c1 => ?_
  ·have c1 : Lz h.tree x.id = false := by simpa using c1
   rw [hfit,c1]
   simp
  have c1 : Lz h.tree x.id = true := by simpa using c1
  refine Ok.ite (fun c2 => ?_) fun c2 => Ok.ret ?_
  ·have c2 : x.control = 0 := by simpa using c2
   refine Ok.step (Ss w.sorted (by omega) x.id) (Ok.ret ?_)
   rw [hfit]
   constructor
   ·intro e _
    refine ⟨c2,List.length_eq_zero_iff.mp ?_⟩
    have : (((tasksK h x.id).length : Nat) : Int) = 0 := by simpa using e
    omega
   ·intro f
    rw [(f c1).2]
    rfl
  ·have c2 : x.control ≠ 0 := by simpa using c2
   rw [hfit]
   constructor
   ·intro e
    simp at e
   ·intro f
    exact absurd (f c1).1 c2
 ·have c : x.kind = 1 := by simpa using c
  have ht : Cu h.tree x.id = true := by
   unfold Cu
   rw [hself]
   simpa using c
  have hni : Db h.tree x.id ≠ 3 := fun e => by
   have := (type_inv.mp e).2.1
   rw [ht] at this
   simp at this
  have hx1 : x.id ≠ 1 := fun e => by
   have := (AcB w.tree hx e).2
   omega
  have hp := Adr w.tree hx hx1
  have hfit : FitN h x ↔ ((x.parent ≠ 1 → kand .i64 (As h.tree x.parent).control 6 = 0) ∧ Db h.tree x.parent ≠ 3) := by
   constructor
   ·intro f
    exact f.thr c
   ·intro f
    exact ⟨fun e => absurd e hni,fun _ => f⟩
  have fin : Db h.tree x.parent ≠ 3 → ((((x.parent == 1) || (kand .i64 (As h.tree x.parent).control 6 == 0)) = true) ↔ FitN h x) := by
   intro hty
   rw [hfit]
   simp only [Bool.or_eq_true,beq_iff_eq]
   constructor
   ·rintro (e | e)
    ·exact ⟨fun q => absurd e q,hty⟩
    ·exact ⟨fun _ => e,hty⟩
   ·rintro ⟨f,_⟩
    by_cases e : x.parent = 1
    ·exact .inl e
    ·exact .inr (f e)
  refine Ok.step (AaH w.tree x.parent) ?_
  simp only
  refine Ok.ite (fun c1 => ?_) fun c1 => ?_
  ·have c1 : Cu h.tree x.parent = false := by
    unfold Cu
    simpa using c1
   refine Ok.step (Ob w.tree x.parent) ?_
   refine Ok.ite (fun c2 => Ok.ret ?_) fun c2 => Ok.ret (fin ?_)
   ·constructor
    ·intro e
     simp at e
    ·intro f
     exact absurd (type_inv.mpr ⟨hp,c1,c2⟩) (hfit.mp f).2
   ·intro e
    rw [(type_inv.mp e).2.2] at c2
    simp at c2
  ·have c1 : Cu h.tree x.parent = true := by
    unfold Cu
    simpa using c1
   refine Ok.ite (fun c2 => by simp at c2) fun _ => Ok.ret (fin fun e => ?_)
   have := (type_inv.mp e).2.1
   rw [c1] at this
   simp at this
theorem AjL {α : Type} (m : IMap α) (k : Int) (v : α) (j : Int) : (m.set k v).get j = if j = k then v else m.get j := rfl
theorem AaA {h : Aa} (r : RawH h) : Ok (Cs h) (fun b => b = true ↔ Bi h) := by
 have bad : ¬ Bi h → Ok (some false) (fun b => b = true ↔ Bi h) := fun hn => Ok.ret ⟨fun e => by simp at e,fun w => absurd w hn⟩
 unfold Cs
 refine Ok.bind (Aax r) fun b hb => ?_
 refine Ok.ite (fun c => bad fun s => ?_) fun c => ?_
 ·rw [hb.mpr s.snd] at c
  simp at c
 have snd := hb.mp (by simpa using c)
 have w := snd.wf
 have l1 := w.len
 have l2 := w.tree.len2
 refine Ok.guard (by omega) ?_
 refine Ok.range (fun pre m => ∀ x ∈ pre,x.id = x.process → m.get x.id = Ei h.tree x.group) (by simp) ?_ ?_
 ·intro pre x post m n he hI hn
  unfold Ww Ov
  refine Ok.ite (fun c => ?_) fun c => ?_
  ·refine Ok.step (Pm w.tree x.group) (hn _ ?_)
   intro y hy hyp
   rw [AjL]
   rcases List.mem_append.mp hy with hy | hy
   ·have : y.id ≠ x.id := fun e => by
     have hs := w.sorted
     rw [he,List.pairwise_append] at hs
     have := hs.2.2 y hy x (by simp)
     omega
    rw [if_neg this]
    exact hI y hy hyp
   ·obtain rfl : y = x := by simpa using hy
    rw [if_pos rfl]
  ·have c : ¬ x.id = x.process := by simpa using c
   exact hn _ (Na hI fun e => absurd e c)
 ·intro m hm
  have hld : ∀ x ∈ h.tasks,m.get x.process = Ei h.tree (Ih h x).group := by
   intro x hx
   obtain ⟨p,q1,q2,q3⟩ := (w.val x hx).ldr
   obtain ⟨hp,hpi⟩ := Mg q1
   have := hm p hp (by omega)
   unfold Ih
   rw [q1,← hpi]
   exact this
  unfold Xi
  refine Ok.guard (by omega) ?_
  refine Ok.range (fun pre _ => ∀ x ∈ pre,Ei h.tree x.group = Ei h.tree (Ih h x).group) (by simp) ?_ ?_
  ·intro pre x post _ n he hI hn
   have hx : x ∈ h.tasks := by rw [he]; simp
   unfold Wt
   refine Ok.step (Pm w.tree x.group) ?_
   rw [hld x hx]
   refine Ok.ite (fun c => bad fun s => ?_) fun c => hn () (Na hI (by simpa using c))
   rw [s.dom x hx] at c
   simp at c
  ·intro _ hdom
   unfold Wp
   refine Ok.guard (by omega) ?_
   refine Ok.range (fun pre _ => ∀ x ∈ pre,FitN h x) (by simp) ?_ ?_
   ·intro pre x post _ n he hI hn
    have hx : x ∈ h.tree.nodes := by rw [he]; simp
    unfold Vy
    refine Ok.bind (Ahn w hx) fun b hb => ?_
    refine Ok.ite (fun c => bad fun s => ?_) fun c => hn () (Na hI (hb.mp (by simpa using c)))
    rw [hb.mpr (s.nod x hx)] at c
    simp at c
   ·intro _ hnod
    exact Ok.ret ⟨fun _ => ⟨snd,hdom,hnod⟩,fun _ => rfl⟩
theorem Zc {h : Aa} (f : Bi h) : Gb h = some true := by
 obtain ⟨b,hb,e⟩ := Re h
 rw [hb,e.mpr f]
theorem Ee {h : Aa} (f : Bi h) : Cs h = some true := by
 obtain ⟨b,hb,e⟩ := AaA f.snd.wf.raw
 rw [hb,e.mpr f]
theorem Acm {h : Aa} (r : RawH h) (f : ¬ Bi h) : Cs h = some false := by
 obtain ⟨b,hb,e⟩ := AaA r
 cases b
 ·exact hb
 ·exact absurd (e.mp rfl) f
def Jw (t : Ae) (g : Int) : Int :=
 if !Aw t g then 4 else if Db t g == 3 then 10 else if (g != 1) && (kand .i64 (As t g).control 6 != 0) then 6 else 0
theorem Aay {h : Aa} (w : WfH h) (g : Int) : Lg h g = some (Jw h.tree g) := by
 unfold Lg Jw Lo
 rw [AaH w.tree,Option.bind_some]
 cases hg : Aw h.tree g with
 | false => rfl
 | true =>
  simp only [Bool.not_true,Bool.false_eq_true,if_false]
  have ht : ∀ b : Bool,(Db h.tree g = 3 ↔ b = true) → (Db h.tree g == 3) = b := by
   intro b hb
   cases b with
   | true => simpa using hb.mpr rfl
   | false =>
    have : Db h.tree g ≠ 3 := fun e => by simpa using hb.mp e
    simpa using this
  cases hk : Cu h.tree g with
  | true =>
   have hk' : ((As h.tree g).kind != 1) = false := by
    unfold Cu at hk
    simpa using hk
   rw [hk',ht false (by rw [type_inv,hk]; simp)]
   simp only [Bool.false_eq_true,if_false]
   cases (g != 1 && kand .i64 (As h.tree g).control 6 != 0) <;> rfl
  | false =>
   have hk' : ((As h.tree g).kind != 1) = true := by
    unfold Cu at hk
    simpa using hk
   rw [hk',Ob w.tree,ht (Lz h.tree g) (by rw [type_inv,hk,hg]; simp)]
   simp only [if_true,Option.bind_some]
   cases Lz h.tree g
   ·simp only [Bool.false_eq_true,if_false]
    cases (g != 1 && kand .i64 (As h.tree g).control 6 != 0) <;> rfl
   ·rfl
theorem Vn {h : Aa} (f : Bi h) (g : Int) : Iz h g = some (Jw h.tree g) := by
 have w := f.snd.wf
 unfold Iz Jw
 rw [Zc f,Option.bind_some,Ua w.tree,Option.bind_some,Rs w.tree]
 cases Aw h.tree g with
 | false => rfl
 | true =>
  simp only [Bool.not_true,Bool.false_eq_true,if_false,Option.bind_some]
  cases (Db h.tree g == 3)
  ·simp only [Bool.false_eq_true,if_false]
   cases (g != 1 && kand .i64 (As h.tree g).control 6 != 0) <;> rfl
  ·rfl
end Go.Dm

/- Plain theory, part 25: forks that are counted. -/
namespace Go.Dm
def Abv (h : Aa) (k : Int) : Int := ((Bg h.tasks k).getD zK).group
theorem AaP {h : Aa} {k g : Int} (hk : (Bg h.tasks k).isSome = true) (hg : Aw h.tree g = true) : Add h k g = ({ tree := h.tree,tasks := h.tasks.map (Nq k g),next := h.next },0) := by
 unfold Add
 rw [hk,hg]
 rfl
def Ql (p g : Int) (y : Am) : Am := if y.process == p then { id := y.id,process := y.process,group := g,user := y.user } else y
theorem Adk {h : Aa} (w : WfH h) (p : Int) : Abk h p = some (Eh h p) := by
 have := w.len
 unfold Abk
 rw [Ky w]
 simp only [Option.bind_some,Bool.not_true,Bool.false_eq_true,if_false]
 rw [if_pos (by omega)]
 refine (Jp (p := fun x : Am => x.process == p) (f := fun x : Am => x.id) (r := some) ?_ (fun _ => rfl) (by simp; omega)).trans (by simp [Eh])
 intro k x s n hs
 unfold Adj Yn
 rw [if_pos hs]
theorem Aib (h : Aa) (k g : Int) : Ok (Yz h k g) (fun r => r.2 = 0 → WfH r.1 ∧ r.1.tree = h.tree ∧ r.1.tasks.length = h.tasks.length ∧ r.1.next = h.next) := by
 unfold Yz
 have bad : ∀ (x : Aa) (n : Int),n ≠ 0 → Ok (some (x,n)) (fun r : Aa × Int => r.2 = 0 → WfH r.1 ∧ r.1.tree = h.tree ∧ r.1.tasks.length = h.tasks.length ∧ r.1.next = h.next) := fun x n hn => Ok.ret fun e => absurd e hn
 refine Ok.bind (Re h) fun b hb => Ok.ite (fun _ => bad _ _ (by decide)) fun c => ?_
 have f := hb.mp (by simpa using c)
 have w := f.snd.wf
 have l1 := w.len
 have hJ : ∀ b,(b = false → Aw h.tree g = true) → Ok (Nz h k g b) (fun r => r.2 = 0 → WfH r.1 ∧ r.1.tree = h.tree ∧ r.1.tasks.length = h.tasks.length ∧ r.1.next = h.next) := fun b hg => by
  unfold Nz
  refine Ok.ite (fun _ => bad _ _ (by decide)) fun c => ?_
  have hg := hg c
  refine Ok.step (Rs w.tree g) (Ok.ite (fun _ => bad _ _ (by decide)) fun _ => ?_)
  refine Ok.step (Vn f g) (Ok.ite (fun c => bad _ _ (by simpa using c)) fun _ => ?_)
  refine Ok.step (Adk w k) ?_
  have hlen : (Eh h k).length ≤ h.tasks.length := by
   unfold Eh
   rw [List.length_map]
   exact List.length_filter_le _ _
  refine Ok.guard (by omega) ?_
  refine Ok.range (fun _ s => WfH s ∧ s.tree = h.tree ∧ s.tasks.length = h.tasks.length ∧ s.next = h.next ∧ ∀ id,(Bg s.tasks id).isSome = (Bg h.tasks id).isSome) ⟨w,rfl,rfl,rfl,fun _ => rfl⟩ ?_ ?_
  ·intro pre x post s n he ⟨i1,i2,i3,i4,i5⟩ hn
   unfold Aas
   refine Ok.step (Xu i1 x g) (hn _ ?_)
   have hx : (Bg s.tasks x).isSome = true := by
    rw [i5]
    have : x ∈ Eh h k := by rw [he]; simp
    unfold Eh at this
    obtain ⟨y,hy,rfl⟩ := List.mem_map.mp this
    rw [AaT w.sorted (List.mem_filter.mp hy).1]
    rfl
   have hp := AaP hx (by rw [i2]; exact hg)
   have wp := AcF i1 hp rfl
   rw [hp]
   refine ⟨wp,i2,by simpa using i3,i4,fun id => ?_⟩
   simp only
   rw [Adv fun y _ => (Kb x g y).1,Option.isSome_map]
   exact i5 id
  ·rintro s ⟨i1,i2,i3,i4,_⟩
   exact Ok.ret fun _ => ⟨i1,i2,i3,i4⟩
 refine Ok.step (find6 w k) (Ok.ite (fun _ => hJ _ fun e => by simp at e) fun _ => Ok.ite (fun _ => hJ _ fun e => by simp at e) fun _ => Ok.step (Kn w.tree g) (hJ _ fun e => by simpa using e))
end Go.Dm

/- Plain theory, part 30: what keeps Fits; all made hierarchies fit. -/
namespace Go.Dm
theorem tasks_nil {h : Aa} {g : Int} : tasksK h g = [] ↔ ∀ x ∈ h.tasks,x.group ≠ g := by
 unfold tasksK
 rw [List.map_eq_nil_iff,List.filter_eq_nil_iff]
 constructor
 ·intro hh x hx e
  exact hh x hx (by simpa using e)
 ·intro hh x hx e
  exact hh x hx (by simpa using e)
theorem AkI {t : Ae} {g : Int} (h : Jw t g = 0) : Aw t g = true ∧ Db t g ≠ 3 ∧ (g ≠ 1 → kand .i64 (As t g).control 6 = 0) := by
 unfold Jw at h
 split at h
 ·simp at h
 split at h
 ·simp at h
 split at h
 ·simp at h
 rename_i h1 h2 h3
 refine ⟨by simpa using h1,by simpa using h2,fun e => ?_⟩
 simp only [Bool.and_eq_true,bne_iff_ne,not_and,Decidable.not_not] at h3
 exact h3 e
theorem Wx {h h' : Aa} (f : Bi h) (w' : WfH h') (ht : h'.tree = h.tree) (hg : ∀ x ∈ h'.tasks,(∃ y ∈ h.tasks,y.group = x.group) ∨ Jw h.tree x.group = 0)
  (hd : ∀ x ∈ h'.tasks,Ei h.tree x.group = Ei h.tree (Ih h' x).group) : Bi h' := by
 have w := f.snd.wf
 have hk : ∀ x ∈ h.tree.nodes,(Db h.tree x.id = 3 ∨ (x.id ≠ 1 ∧ kand .i64 x.control 6 ≠ 0)) → tasksK h x.id = [] → tasksK h' x.id = [] := by
  intro x hx hc h0
  rw [tasks_nil] at h0 ⊢
  intro y hy e
  rcases hg y hy with ⟨z,hz,ez⟩ | ha
  ·exact h0 z hz (by omega)
  ·rw [e] at ha
   obtain ⟨_,a2,a3⟩ := AkI ha
   rw [Pg w.tree hx] at a3
   rcases hc with hc | ⟨c1,c2⟩
   ·exact a2 hc
   ·exact c2 (a3 c1)
 refine ⟨⟨w',fun x hx => ?_⟩,fun x hx => ?_,fun x hx => ?_⟩
 ·rw [ht] at hx
  have s := f.snd.snd x hx
  exact ⟨by rw [ht]; exact s.av,fun h1 h2 => hk x hx (.inr ⟨h1,h2⟩) (s.busy h1 h2)⟩
 ·rw [ht]
  exact hd x hx
 ·rw [ht] at hx
  have n := f.nod x hx
  refine ⟨fun h3 => ?_,fun h1 => ?_⟩
  ·rw [ht] at h3
   exact ⟨(n.inv h3).1,hk x hx (.inl h3) (n.inv h3).2⟩
  ·rw [ht]
   exact n.thr h1
theorem Pi {h : Aa} (w : WfH h) {x : Am} (hx : x ∈ h.tasks) : Bg h.tasks x.process = some (Ih h x) ∧ Ih h x ∈ h.tasks ∧ (Ih h x).id = x.process ∧ (Ih h x).process = x.process := by
 obtain ⟨p,q1,q2,_⟩ := (w.val x hx).ldr
 have e : Ih h x = p := by
  unfold Ih
  rw [q1]
  rfl
 rw [e]
 exact ⟨q1,(Mg q1).1,(Mg q1).2,q2⟩
theorem Aha {h : Aa} {x : Am} {r : Aa × Int × Int} (e : addK h x = r) (hr : r.2.2 = 0) :
  r = ({ tree := h.tree,tasks := h.tasks ++ [{ id := h.next,process := if x.process == 0 then h.next else x.process,group := x.group,user := x.user }],next := h.next + 1 },h.next,0) := by
 unfold addK at e
 split at e
 ·subst e; simp at hr
 ·exact e.symm
theorem Aji {h : Aa} {g u : Int} {r : Aa × Int × Int} (e : Vi h g u = r) (hr : r.2.2 = 0) :
  r = ({ tree := h.tree,tasks := h.tasks ++ [{ id := h.next,process := h.next,group := g,user := u }],next := h.next + 1 },h.next,0) := by
 unfold Vi at e
 split at e
 ·subst e; simp at hr
 split at e
 ·subst e; simp at hr
 exact Aha e hr
theorem Aij {h h' : Aa} (w : WfH h) {y : Am} (hk : h'.tasks = h.tasks ++ [y]) {x : Am} (hx : x ∈ h.tasks) : Ih h' x = Ih h x := by
 have := (Pi w hx).1
 unfold Ih at this ⊢
 rw [hk,Uy,this]
 simp
theorem AkN {h : Aa} (f : Bi h) {g u : Int} (ha : Jw h.tree g = 0) {r : Aa × Int × Int} (e : Vi h g u = r) (hr : r.2.2 = 0) : Bi r.1 := by
 have w := f.snd.wf
 have w' := AiB w e hr
 have s := Aji e hr
 have ht : r.1.tree = h.tree := by rw [s]
 have hk : r.1.tasks = h.tasks ++ [{ id := h.next,process := h.next,group := g,user := u }] := by rw [s]
 refine Wx f w' ht (fun x hx => ?_) fun x hx => ?_
 ·rw [hk] at hx
  rcases List.mem_append.mp hx with hx | hx
  ·exact .inl ⟨x,hx,rfl⟩
  ·obtain rfl : x = { id := h.next,process := h.next,group := g,user := u } := by simpa using hx
   exact .inr ha
 ·rw [hk] at hx
  rcases List.mem_append.mp hx with hx | hx
  ·rw [Aij w hk hx]
   exact f.dom x hx
  ·obtain rfl : x = { id := h.next,process := h.next,group := g,user := u } := by simpa using hx
   have : Ih r.1 { id := h.next,process := h.next,group := g,user := u } = { id := h.next,process := h.next,group := g,user := u } := by
    unfold Ih
    rw [hk,Uy]
    have h0 : Bg h.tasks h.next = none := by
     unfold Bg
     rw [List.find?_eq_none]
     intro z hz
     have := w.lt z hz
     simp
     omega
    simp only [h0,Option.none_or]
    simp [Bg]
   rw [this]
theorem Ala {h : Aa} (f : Bi h) {k : Int} {r : Aa × Int × Int} (e : AbD h k = r) (hr : r.2.2 = 0) : Bi r.1 := by
 have w := f.snd.wf
 have w' := Aiw w e hr
 unfold AbD at e
 cases hk0 : Bg h.tasks k with
 | none => rw [hk0] at e; subst e; simp at hr
 | some y =>
  rw [hk0] at e
  have hy := (Mg hk0).1
  have s := Aha e hr
  obtain ⟨l1,l2,l3,l4⟩ := Pi w hy
  have hp0 : (y.process == 0) = false := by
   have := (w.val _ l2).pos
   simp
   omega
  rw [hp0] at s
  simp only [Bool.false_eq_true,if_false] at s
  have ht : r.1.tree = h.tree := by rw [s]
  have hk : r.1.tasks = h.tasks ++ [{ id := h.next,process := y.process,group := y.group,user := y.user }] := by rw [s]
  refine Wx f w' ht (fun x hx => ?_) fun x hx => ?_
  ·rw [hk] at hx
   rcases List.mem_append.mp hx with hx | hx
   ·exact .inl ⟨x,hx,rfl⟩
   ·obtain rfl : x = { id := h.next,process := y.process,group := y.group,user := y.user } := by simpa using hx
    exact .inl ⟨y,hy,rfl⟩
  ·rw [hk] at hx
   rcases List.mem_append.mp hx with hx | hx
   ·rw [Aij w hk hx]
    exact f.dom x hx
   ·obtain rfl : x = { id := h.next,process := y.process,group := y.group,user := y.user } := by simpa using hx
    have : Ih r.1 { id := h.next,process := y.process,group := y.group,user := y.user } = Ih r.1 y := rfl
    rw [this,Aij w hk hy]
    exact f.dom y hy
theorem exit_fits {h : Aa} (f : Bi h) {k : Int} {r : Aa × Int} (e : AdH h k = r) (hr : r.2 = 0) : Bi r.1 := by
 have w := f.snd.wf
 have w' := Aju w e hr
 unfold AdH at e
 cases hk0 : Bg h.tasks k with
 | none => rw [hk0] at e; subst e; simp at hr
 | some y =>
  rw [hk0] at e
  have ht : r.1.tree = h.tree := by rw [← e]; rfl
  have hk : r.1.tasks = h.tasks.filter (fun x => x.id != k && x.process != k) := by rw [← e]; rfl
  have hsub : ∀ x ∈ r.1.tasks,x ∈ h.tasks := fun x hx => by
   rw [hk] at hx
   exact (List.mem_filter.mp hx).1
  refine Wx f w' ht (fun x hx => .inl ⟨x,hsub x hx,rfl⟩) fun x hx => ?_
  have a := Pi w' hx
  have b := Pi w (hsub x hx)
  have : Ih r.1 x = Ih h x := Za w.sorted (hsub _ a.2.1) b.2.1 (by rw [a.2.2.1,b.2.2.1])
  rw [this]
  exact f.dom x (hsub x hx)
def Wk (h : Aa) (k g : Int) : Aa × Int :=
 if !((Bg h.tasks k).isSome && Aw h.tree g) then (zH,4) else if Jw h.tree g != 0 then (zH,Jw h.tree g) else if Ei h.tree g != Ei h.tree (Abv h k) then (zH,9)
 else ({ tree := h.tree,tasks := h.tasks.map (Nq k g),next := h.next },0)
theorem Ael {h : Aa} (f : Bi h) (k g : Int) : Ga h k g = some (Wk h k g) := by
 have w := f.snd.wf
 unfold Ga Wk
 rw [Zc f,Option.bind_some,if_neg (by simp),find6 w,Option.bind_some]
 cases hk : (Bg h.tasks k).isSome with
 | false => rfl
 | true =>
  simp only [Bool.not_true,Bool.false_eq_true,if_false,Bool.true_and]
  rw [Kn w.tree,Option.bind_some]
  cases hg : Aw h.tree g with
  | false => rfl
  | true =>
   unfold Gd
   simp only [Bool.not_true,Bool.false_eq_true,if_false]
   rw [Vn f,Option.bind_some]
   cases ha : (Jw h.tree g != 0) with
   | true => rfl
   | false =>
    simp only [Bool.false_eq_true,if_false]
    rw [Vm w.tree,Option.bind_some,Vm w.tree,Option.bind_some]
    show (if (Ei h.tree g != Ei h.tree (Abv h k)) = true then _ else _) = _
    cases hd : (Ei h.tree g != Ei h.tree (Abv h k)) with
    | true => rfl
    | false =>
     simp only [Bool.false_eq_true,if_false]
     rw [Xu w,Option.bind_some,AaP hk hg]
theorem Ajc {h : Aa} {k g : Int} (e : (Wk h k g).2 = 0) : (Bg h.tasks k).isSome = true ∧ Aw h.tree g = true ∧ Jw h.tree g = 0 ∧ Ei h.tree g = Ei h.tree (Abv h k) ∧ Wk h k g = ({ tree := h.tree,tasks := h.tasks.map (Nq k g),next := h.next },0) := by
 unfold Wk at e ⊢
 split at e
 ·simp at e
 split at e
 ·rename_i h2
  simp at e h2
  exact absurd e h2
 split at e
 ·simp at e
 rename_i h1 h2 h3
 simp only [Bool.not_eq_true',Bool.and_eq_false_iff,not_or,Bool.not_eq_false] at h1
 simp only [bne_iff_ne,Decidable.not_not] at h2 h3
 refine ⟨h1.1,h1.2,h2,h3,?_⟩
 rw [h1.1,h1.2,h2,h3]
 simp
theorem ldr_map {h : Aa} {fn : Am → Am} (hf : ∀ y,(fn y).id = y.id ∧ (fn y).process = y.process) (hz : ∀ y ∈ h.tasks,(Bg h.tasks y.process).isSome = true) {y : Am} (hy : y ∈ h.tasks) {h' : Aa} (hk : h'.tasks = h.tasks.map fn) : Ih h' (fn y) = fn (Ih h y) := by
 unfold Ih
 rw [hk,(hf y).2,Adv fun z _ => (hf z).1]
 cases e : Bg h.tasks y.process with
 | none =>
  have := hz y hy
  rw [e] at this
  simp at this
 | some p => rfl
theorem Ahm {h : Aa} (f : Bi h) {k g : Int} (e : (Wk h k g).2 = 0) : Bi (Wk h k g).1 := by
 have w := f.snd.wf
 obtain ⟨h1,h2,h3,h4,h5⟩ := Ajc e
 have hp := AaP h1 h2
 have w' := AcF w hp rfl
 rw [h5]
 have hdom : ∀ y ∈ h.tasks,Ei h.tree (Nq k g y).group = Ei h.tree y.group := by
  intro y hy
  unfold Nq
  split
  ·rename_i ey
   have ey : y.id = k := by simpa using ey
   rw [h4]
   unfold Abv
   rw [← ey,AaT w.sorted hy]
   rfl
  ·rfl
 refine Wx f w' rfl (fun x hx => ?_) fun x hx => ?_
 ·obtain ⟨y,hy,rfl⟩ := List.mem_map.mp hx
  unfold Nq
  split
  ·exact .inr h3
  ·exact .inl ⟨y,hy,rfl⟩
 ·obtain ⟨y,hy,rfl⟩ := List.mem_map.mp hx
  have hl := Pi w hy
  rw [ldr_map (h := h) (fun z => ⟨(Kb k g z).1,(Kb k g z).2.1⟩) (fun z hz => by rw [(Pi w hz).1]; rfl) hy rfl,hdom y hy,hdom _ hl.2.1]
  exact f.dom y hy
def attK (h : Aa) (k g : Int) : Aa × Int :=
 if !((Bg h.tasks k).isSome && (((Bg h.tasks k).getD zK).process == k) && Aw h.tree g) then (zH,4) else if Db h.tree g == 2 then (zH,10) else if Jw h.tree g != 0 then (zH,Jw h.tree g)
 else ({ tree := h.tree,tasks := h.tasks.map (Ql k g),next := h.next },0)
theorem AiN {h : Aa} (f : Bi h) (k g : Int) : Yz h k g = some (attK h k g) := by
 have w := f.snd.wf
 have l1 := w.len
 unfold Yz attK
 rw [Zc f,Option.bind_some,if_neg (by simp),find6 w,Option.bind_some]
 cases hk : (Bg h.tasks k).isSome with
 | false => rfl
 | true =>
  simp only [Bool.not_true,Bool.false_eq_true,if_false,Bool.true_and]
  cases hp : (((Bg h.tasks k).getD zK).process == k) with
  | false =>
   have : (((Bg h.tasks k).getD zK).process != k) = true := by simpa using hp
   rw [this]
   rfl
  | true =>
   have : (((Bg h.tasks k).getD zK).process != k) = false := by simpa using hp
   rw [this]
   simp only [Bool.false_eq_true,if_false,Bool.true_and]
   rw [Kn w.tree,Option.bind_some]
   cases hg : Aw h.tree g with
   | false => rfl
   | true =>
    unfold Nz
    simp only [Bool.not_true,Bool.false_eq_true,if_false]
    rw [Rs w.tree,Option.bind_some]
    cases h2 : (Db h.tree g == 2) with
    | true => rfl
    | false =>
     simp only [Bool.false_eq_true,if_false]
     rw [Vn f,Option.bind_some]
     cases ha : (Jw h.tree g != 0) with
     | true => rfl
     | false =>
      simp only [Bool.false_eq_true,if_false]
      refine Ok.eq ?_
      refine Ok.step (Adk w k) ?_
      have hlen : (Eh h k).length ≤ h.tasks.length := by
       unfold Eh
       rw [List.length_map]
       exact List.length_filter_le _ _
      refine Ok.guard (by omega) ?_
      let put : List Int → Am → Am := fun pre y => if pre.contains y.id then { id := y.id,process := y.process,group := g,user := y.user } else y
      have hput : ∀ pre y,(put pre y).id = y.id := fun pre y => by
       show (if pre.contains y.id then _ else _ : Am).id = y.id
       split <;> rfl
      refine Ok.range (fun pre s => WfH s ∧ s = { tree := h.tree,tasks := h.tasks.map (put pre),next := h.next }) ⟨w,?_⟩ ?_ ?_
      ·have : h.tasks.map (put []) = h.tasks := by
        rw [List.map_congr_left (g := id) fun y _ => by simp [put]]
        simp
       rw [this]
      ·intro pre x post s n he ⟨i1,i2⟩ hn
       unfold Aas
       refine Ok.step (Xu i1 x g) (hn _ ?_)
       have hx : (Bg s.tasks x).isSome = true := by
        rw [i2]
        simp only
        rw [Adv fun y _ => hput pre y,Option.isSome_map]
        have : x ∈ Eh h k := by rw [he]; simp
        unfold Eh at this
        obtain ⟨y,hy,rfl⟩ := List.mem_map.mp this
        rw [AaT w.sorted (List.mem_filter.mp hy).1]
        rfl
       have hpl := AaP hx (by rw [i2]; exact hg)
       refine ⟨?_,?_⟩
       ·rw [hpl]
        exact AcF i1 hpl rfl
       ·rw [hpl,i2]
        simp only [List.map_map]
        congr 1
        refine List.map_congr_left fun y _ => ?_
        show Nq x g (put pre y) = put (pre ++ [x]) y
        unfold Nq
        rw [hput]
        simp only [put]
        by_cases e1 : y.id = x
        ·subst e1
         simp
         split <;> exact ⟨rfl,rfl⟩
        ·have e1' : (y.id == x) = false := by simpa using e1
         rw [e1']
         simp [e1]
      ·rintro s ⟨_,i2⟩
       refine Ok.ret ?_
       rw [i2]
       congr 2
       refine List.map_congr_left fun y hy => ?_
       show put (Eh h k) y = Ql k g y
       simp only [put,Ql]
       have : (Eh h k).contains y.id = (y.process == k) := by
        unfold Eh
        rw [Bool.eq_iff_iff,List.contains_iff_mem,List.mem_map]
        constructor
        ·rintro ⟨z,hz,e⟩
         obtain ⟨hz1,hz2⟩ := List.mem_filter.mp hz
         rw [← Za w.sorted hz1 hy e]
         exact hz2
        ·intro e
         exact ⟨y,List.mem_filter.mpr ⟨hy,e⟩,rfl⟩
       rw [this]
theorem attK_ok {h : Aa} {k g : Int} (e : (attK h k g).2 = 0) : (Bg h.tasks k).isSome = true ∧ ((Bg h.tasks k).getD zK).process = k ∧ Aw h.tree g = true ∧ Db h.tree g ≠ 2 ∧ Jw h.tree g = 0 ∧ attK h k g = ({ tree := h.tree,tasks := h.tasks.map (Ql k g),next := h.next },0) := by
 unfold attK at e ⊢
 split at e
 ·simp at e
 split at e
 ·simp at e
 split at e
 ·rename_i h2
  simp at e h2
  exact absurd e h2
 rename_i h1 h2 h3
 rw [if_neg h1,if_neg h2,if_neg h3]
 simp only [Bool.not_eq_true',Bool.not_eq_false,Bool.and_eq_true,beq_iff_eq] at h1
 simp only [bne_iff_ne,Decidable.not_not] at h3
 exact ⟨h1.1.1,h1.1.2,h1.2,by simpa using h2,h3,rfl⟩
theorem Aiy (k g : Int) (y : Am) : (Ql k g y).id = y.id ∧ (Ql k g y).process = y.process ∧ (Ql k g y).user = y.user := by
 unfold Ql
 split <;> exact ⟨rfl,rfl,rfl⟩
theorem attK_fits {h : Aa} (f : Bi h) {k g : Int} (e : (attK h k g).2 = 0) : Bi (attK h k g).1 := by
 have w := f.snd.wf
 obtain ⟨h1,h2,h3,h4,h5,h6⟩ := attK_ok e
 have hr := AiN f k g
 have w' := (ok_at (Aib h k g) hr e).1
 rw [h6] at w' ⊢
 refine Wx f w' rfl (fun x hx => ?_) fun x hx => ?_
 ·obtain ⟨y,hy,rfl⟩ := List.mem_map.mp hx
  unfold Ql
  split
  ·exact .inr h5
  ·exact .inl ⟨y,hy,rfl⟩
 ·obtain ⟨y,hy,rfl⟩ := List.mem_map.mp hx
  have hl := Pi w hy
  rw [ldr_map (h := h) (fun z => ⟨(Aiy k g z).1,(Aiy k g z).2.1⟩) (fun z hz => by rw [(Pi w hz).1]; rfl) hy rfl]
  unfold Ql
  rw [hl.2.2.2]
  split
  ·rfl
  ·exact f.dom y hy
section
variable {t t' : Ae} {fn : Ag → Ag}
theorem Ajd (hn : t'.nodes = t.nodes.map fn) (hf : ∀ y ∈ t.nodes,(fn y).id = y.id) (a : Int) : Fn t' a = (Fn t a).map fn := by
 unfold Fn
 rw [hn]
 have : ∀ L : List Ag,(∀ y ∈ L,(fn y).id = y.id) → (L.map fn).find? (fun x => x.id == a) = (L.find? (fun x => x.id == a)).map fn := by
  intro L
  induction L with
  | nil => intro _; rfl
  | cons b r ih =>
   intro hL
   rw [List.map_cons,List.find?_cons,List.find?_cons,hL b (by simp)]
   cases (b.id == a)
   ·exact ih fun y hy => hL y (by simp [hy])
   ·rfl
 exact this _ hf
structure Alike (t t' : Ae) (fn : Ag → Ag) : Prop where
 nodes : t'.nodes = t.nodes.map fn
 id : ∀ y ∈ t.nodes,(fn y).id = y.id
 par : ∀ y ∈ t.nodes,(fn y).parent = y.parent
 con : ∀ y ∈ t.nodes,(fn y).control = y.control
 kind : ∀ y ∈ t.nodes,(fn y).kind = y.kind
theorem Alike.has (h : Alike t t' fn) (a : Int) : Aw t' a = Aw t a := by
 unfold Aw
 rw [Ajd h.nodes h.id]
 simp
theorem Alike.node (h : Alike t t' fn) (a : Int) : (As t' a).control = (As t a).control ∧ (As t' a).kind = (As t a).kind ∧ (As t' a).parent = (As t a).parent := by
 unfold As
 rw [Ajd h.nodes h.id]
 cases e : Fn t a with
 | none => exact ⟨rfl,rfl,rfl⟩
 | some y =>
  have hy := (Qo e).1
  exact ⟨h.con y hy,h.kind y hy,h.par y hy⟩
theorem Alike.thr (h : Alike t t' fn) : Cu t' = Cu t := by
 funext a
 unfold Cu
 rw [(h.node a).2.1]
theorem Alike.up (h : Alike t t' fn) (a : Int) : upT t' a = upT t a := by
 unfold upT
 rw [h.nodes,← List.map_reverse]
 exact upR_map fun y hy => ⟨h.id y (by simpa using hy),h.par y (by simpa using hy)⟩
theorem Alike.kids (h : Alike t t' fn) (a : Int) : En t' a = En t a := by
 unfold En
 rw [h.nodes,List.filter_map,List.map_map]
 have e1 : t.nodes.filter ((fun x => x.parent == a) ∘ fn) = t.nodes.filter (fun x => x.parent == a) := List.filter_congr fun y hy => by simp [h.par y hy]
 rw [e1]
 exact List.map_congr_left fun y hy => h.id y (List.mem_filter.mp hy).1
theorem Alike.dom (h : Alike t t' fn) (a : Int) : Ei t' a = Ei t a := by
 unfold Ei
 rw [h.up,h.thr]
theorem Alike.inv (h : Alike t t' fn) (a : Int) : Lz t' a = Lz t a := by
 unfold Lz
 rw [h.up,h.thr]
theorem Alike.type (h : Alike t t' fn) (a : Int) : Db t' a = Db t a := by
 unfold Db
 rw [h.has,h.inv,h.kids,h.thr]
theorem AkS {h h' : Aa} (f : Bi h) (w' : WfH h') (a : Alike h.tree h'.tree fn) (ht : h'.tasks = h.tasks) : Bi h' := by
 have hk : ∀ g,tasksK h' g = tasksK h g := fun g => by
  unfold tasksK
  rw [ht]
 have hl : ∀ x,Ih h' x = Ih h x := fun x => by
  unfold Ih
  rw [ht]
 refine ⟨⟨w',fun x hx => ?_⟩,fun x hx => ?_,fun x hx => ?_⟩
 ·rw [a.nodes] at hx
  obtain ⟨y,hy,rfl⟩ := List.mem_map.mp hx
  have s := f.snd.snd y hy
  have e1 : Hq h'.tree (fn y) = Hq h.tree y := by
   unfold Hq Wv
   rw [a.kind y hy,a.id y hy,a.par y hy,(a.node y.parent).1]
  refine ⟨?_,fun h1 h2 => ?_⟩
  ·rw [e1,a.con y hy]
   exact s.av
  ·rw [hk,a.id y hy]
   rw [a.id y hy] at h1
   rw [a.con y hy] at h2
   exact s.busy h1 h2
 ·rw [ht] at hx
  rw [a.dom,a.dom,hl]
  exact f.dom x hx
 ·rw [a.nodes] at hx
  obtain ⟨y,hy,rfl⟩ := List.mem_map.mp hx
  have n := f.nod y hy
  refine ⟨fun h3 => ?_,fun h1 => ?_⟩
  ·rw [a.id y hy,a.type] at h3
   rw [a.con y hy,a.id y hy,hk]
   exact n.inv h3
  ·rw [a.kind y hy] at h1
   rw [a.par y hy,a.type,(a.node y.parent).1]
   exact n.thr h1
end
theorem own_fits {h : Aa} (f : Bi h) {x : Ag} (hx : x ∈ h.tree.nodes) {u : Int} (u0 : 0 ≤ u) (u1 : u ≤ 1048576) : Bi (Hm h (ownN x u)) := by
 have w := f.snd.wf
 have hs : ∀ y ∈ h.tree.nodes,Lh (ownN x u) y = if y.id == x.id then ownN y u else y := fun y hy => by
  unfold Lh
  have : (ownN x u).id = x.id := rfl
  rw [this]
  split
  ·rename_i e
   rw [Xn w.tree.sorted hy hx (by simpa using e)]
  ·rfl
 refine AkS (fn := Lh (ownN x u)) f (AeX w hx u0 u1) ⟨rfl,?_,?_,?_,?_⟩ rfl
 all_goals
  intro y hy
  rw [hs y hy]
  split <;> rfl
section
variable {t t' : Ae} {p : Int} {s : ByteArray}
structure Grown (t t' : Ae) (p : Int) (s : ByteArray) : Prop where
 nodes : t'.nodes = t.nodes ++ [{ id := t.next,parent := p,name := s,control := 0,kind := 0,owner := 0 }]
 next : t'.next = t.next + 1
 par : Aw t p = true
 wf : WfT t
 wf' : WfT t'
 room : (upT t p).length < 9
 fresh : ∀ x ∈ t.nodes,x.parent = p → Co x.name s = false
theorem AdA (w : WfT t) {r : Ae × Int × Int} (e : Ry t p s = r) (hr : r.2.2 = 0) : Grown t r.1 p s ∧ r.2.1 = t.next := by
 have wf' := addT_wf w e hr
 unfold Ry at e
 split at e
 ·subst e; simp at hr
 split at e
 ·subst e; simp at hr
 split at e
 ·subst e; simp at hr
 split at e
 ·subst e; simp at hr
 rename_i h1 h2 h3 h4
 subst e
 simp only [Bool.or_eq_true,decide_eq_true_eq,not_or] at h4
 refine ⟨⟨rfl,rfl,by simpa using h2,w,wf',by omega,fun x hx e => ?_⟩,rfl⟩
 cases hb : Co x.name s
 ·rfl
 ·exact absurd (List.any_eq_true.mpr ⟨x,hx,by simp [e,hb]⟩) h3
theorem Grown.lt (g : Grown t t' p s) : ∀ x ∈ t.nodes,x.id < t.next := g.wf.next
theorem Grown.get (g : Grown t t' p s) {a : Int} (h : a ≠ t.next) : Fn t' a = Fn t a := by
 unfold Fn
 rw [g.nodes,List.find?_append]
 have : ([{ id := t.next,parent := p,name := s,control := 0,kind := 0,owner := 0 }] : List Ag).find? (fun x => x.id == a) = none := by
  simp
  omega
 rw [this,Option.or_none]
theorem Grown.getNone (g : Grown t t' p s) : Fn t t.next = none := by
 unfold Fn
 rw [List.find?_eq_none]
 intro x hx
 have := g.lt x hx
 simp
 omega
theorem Grown.getNew (g : Grown t t' p s) : Fn t' t.next = some { id := t.next,parent := p,name := s,control := 0,kind := 0,owner := 0 } := by
 have := g.getNone
 unfold Fn at this ⊢
 rw [g.nodes,List.find?_append,this]
 simp
theorem Grown.has (g : Grown t t' p s) {a : Int} (h : a ≠ t.next) : Aw t' a = Aw t a := by
 unfold Aw
 rw [g.get h]
theorem Grown.node (g : Grown t t' p s) (a : Int) : (As t' a).control = (As t a).control ∧ (As t' a).kind = (As t a).kind := by
 unfold As
 by_cases h : a = t.next
 ·subst h
  rw [g.getNew,g.getNone]
  exact ⟨rfl,rfl⟩
 ·rw [g.get h]
  exact ⟨rfl,rfl⟩
theorem Grown.thr (g : Grown t t' p s) : Cu t' = Cu t := by
 funext a
 unfold Cu
 rw [(g.node a).2]
theorem Grown.up (g : Grown t t' p s) {a : Int} (h : a ≠ t.next) : upT t' a = upT t a := by
 unfold upT
 rw [g.nodes]
 exact Abl (fun e => h e.symm)
theorem Grown.dom (g : Grown t t' p s) {a : Int} (h : a ≠ t.next) : Ei t' a = Ei t a := by
 unfold Ei
 rw [g.up h,g.thr]
theorem Grown.thrNew (g : Grown t t' p s) : Cu t t.next = false := by
 unfold Cu As
 rw [g.getNone]
 rfl
theorem Grown.type (g : Grown t t' p s) {a : Int} (h : a ≠ t.next) : Db t' a = Db t a := by
 have hk : (En t' a).any (Cu t) = (En t a).any (Cu t) := by
  unfold En
  rw [g.nodes,List.filter_append,List.map_append,List.any_append]
  have : ((([{ id := t.next,parent := p,name := s,control := 0,kind := 0,owner := 0 }] : List Ag).filter (fun x => x.parent == a)).map (·.id)).any (Cu t) = false := by
   rw [List.filter_cons]
   split
   ·simp [g.thrNew]
   ·simp
  rw [this,Bool.or_false]
 unfold Db Lz
 rw [g.has h,g.up h,g.thr,hk]
theorem Aki {h : Aa} (f : Bi h) {tr : Ae} (g : Grown h.tree tr p s) : Bi { tree := tr,tasks := h.tasks,next := h.next } := by
 have w := f.snd.wf
 have hne : ∀ x ∈ h.tasks,x.group ≠ h.tree.next := fun x hx e => by
  obtain ⟨n,hn,en⟩ := hasN_iff.mp (w.val x hx).grp
  have := g.lt n hn
  omega
 have w' : WfH { tree := tr,tasks := h.tasks,next := h.next } := by
  refine ⟨g.wf',w.len,w.n1,w.n2,w.sorted,w.lt,fun x hx => ?_⟩
  have v := w.val x hx
  refine ⟨v.pos,?_,v.u1,v.u2,v.ldr⟩
  show Aw tr x.group = true
  rw [g.has (hne x hx)]
  exact v.grp
 have hk : ∀ a,tasksK { tree := tr,tasks := h.tasks,next := h.next } a = tasksK h a := fun _ => rfl
 have hpar : ∀ y ∈ h.tree.nodes,y.parent ≠ h.tree.next := fun y hy => by
  have := w.tree.par_lt hy
  have := g.lt y hy
  omega
 refine ⟨⟨w',fun x hx => ?_⟩,fun x hx => ?_,fun x hx => ?_⟩
 ·have hx' : x ∈ tr.nodes := hx
  rw [g.nodes] at hx'
  rcases List.mem_append.mp hx' with hx' | hx'
  ·have sn := f.snd.snd x hx'
   have e1 : Hq tr x = Hq h.tree x := by
    unfold Hq Wv
    rw [(g.node x.parent).1]
   exact ⟨by show Ax .i64 x.control (Hq tr x) = 0; rw [e1]; exact sn.av,sn.busy⟩
  ·obtain rfl : x = { id := h.tree.next,parent := p,name := s,control := 0,kind := 0,owner := 0 } := by simpa using hx'
   refine ⟨?_,fun _ h2 => ?_⟩
   ·have : ∀ c : Int,Ax .i64 0 c = 0 := fun c => by simp [Ax]; rfl
    exact this _
   ·exact absurd (by decide : kand .i64 0 6 = 0) h2
 ·have hx' : x ∈ h.tasks := hx
  have hl := Pi w hx'
  show Ei tr x.group = Ei tr (Ih h x).group
  rw [g.dom (hne x hx'),g.dom (hne _ hl.2.1)]
  exact f.dom x hx'
 ·have hx' : x ∈ tr.nodes := hx
  rw [g.nodes] at hx'
  rcases List.mem_append.mp hx' with hx' | hx'
  ·have n := f.nod x hx'
   have hid : x.id ≠ h.tree.next := by
    have := g.lt x hx'
    omega
   refine ⟨fun h3 => ?_,fun h1 => ?_⟩
   ·have h3' : Db tr x.id = 3 := h3
    rw [g.type hid] at h3'
    exact n.inv h3'
   ·show (x.parent ≠ 1 → kand .i64 (As tr x.parent).control 6 = 0) ∧ Db tr x.parent ≠ 3
    rw [(g.node x.parent).1,g.type (hpar x hx')]
    exact n.thr h1
  ·obtain rfl : x = { id := h.tree.next,parent := p,name := s,control := 0,kind := 0,owner := 0 } := by simpa using hx'
   refine ⟨fun _ => ⟨rfl,?_⟩,fun h1 => ?_⟩
   ·rw [hk,tasks_nil]
    exact hne
   ·simp at h1
end
theorem Agu (h : Aa) (id a d : Int) : Ok (Mc h id a d) (fun r => r.2 = 0 → Bi r.1) := by
 unfold Mc
 have bad : ∀ (x : Aa) (n : Int),n ≠ 0 → Ok (some (x,n)) (fun r : Aa × Int => r.2 = 0 → Bi r.1) := fun x n hn => Ok.ret fun e => absurd e hn
 refine Ok.bind (Re h) fun _ _ => Ok.ite (fun _ => bad _ _ (by decide)) fun _ => ?_
 refine Ok.bind (AcU _ _ _ _) fun r _ => Ok.ite (fun c => bad _ _ (by simpa using c)) fun _ => ?_
 refine Ok.bind (Re r.1) fun b hb => Ok.ite (fun _ => bad _ _ (by decide)) fun c => ?_
 exact Ok.ret fun _ => hb.mp (by simpa using c)
theorem AfP (h : Aa) (id : Int) : Ok (Kw h id) (fun r => r.2 = 0 → Bi r.1) := by
 unfold Kw
 have bad : ∀ (x : Aa) (n : Int),n ≠ 0 → Ok (some (x,n)) (fun r : Aa × Int => r.2 = 0 → Bi r.1) := fun x n hn => Ok.ret fun e => absurd e hn
 refine Ok.bind (Mv h) fun b hb => Ok.ite (fun _ => bad _ _ (by decide)) fun c => ?_
 have w : WfH h := hb (by simpa using c)
 have := w.len
 have := w.tree.len2
 have hJ : ∀ r b,Ok (Hg h id r b) (fun r => r.2 = 0 → Bi r.1) := fun r b => by
  unfold Hg
  refine Ok.ite (fun _ => bad _ _ (by decide)) fun _ => Ok.ite (fun _ => bad _ _ (by decide)) fun _ => ?_
  refine Ok.step (Py h (by omega) (by omega)) (Ok.step (Ux h.tree _ (by omega)) ?_)
  refine Ok.bind (Ms _ _) fun _ _ => ?_
  unfold Mq
  refine Ok.ite (fun _ => bad _ _ (by decide)) fun _ => ?_
  refine Ok.bind (Re _) fun b hb => Ok.ite (fun _ => bad _ _ (by decide)) fun c => ?_
  exact Ok.ret fun _ => hb.mp (by simpa using c)
 refine Ok.bind (Dc _ _) fun _ _ => Ok.ite (fun _ => bad _ _ (by decide)) fun _ => Ok.ite (fun _ => bad _ _ (by decide)) fun _ => ?_
 refine Ok.bind (Dc _ _) fun _ _ => Ok.bind (Nx _ _) fun _ _ => Ok.ite (fun _ => hJ _ _) fun _ => Ok.ite (fun _ => hJ _ _) fun _ => hJ _ _
theorem fits_inv (n m : Int) : HInv n m (fun _ h => Bi h) (fun _ h => Bi h) := by
 refine ⟨?_,?_,?_,?_,?_,?_,?_,?_,?_,?_⟩
 ·intro h g a r c w s e hr
  exact ok_at (Agu h g a 0) e hr
 ·intro h g r c w s e hr
  exact ok_at (AfP h g) e hr
 ·intro h x u c w s hx _ u0 u1
  exact own_fits s hx u0 (by omega)
 ·intro c h w c0 s
  exact s
 ·intro c h g u r w c0 s ha _ _ e hr
  rw [Vn s] at ha
  exact AkN s (Option.some.inj ha) e hr
 ·intro c h w c0 s
  exact s
 ·intro c h w c0 s
  exact s
 ·intro c h k r w c0 s e hr
  exact Ala s e hr
 ·intro c h k g r w c0 s e hr
  rw [Ael s] at e
  have e := Option.some.inj e
  rw [← e] at hr ⊢
  exact Ahm s hr
 ·intro c h k r w c0 s e hr
  exact exit_fits s e hr
theorem AkU {t : Ae} (w : WfT t) (h : ∀ x ∈ t.nodes,x.control = 0 ∧ x.kind = 0) : Bi { tree := t,tasks := [],next := 1 } := by
 have w' : WfH { tree := t,tasks := [],next := 1 } := ⟨w,by simp,by simp,by simp,by simp,by simp,by simp⟩
 refine ⟨⟨w',fun x hx => ?_⟩,fun x hx => ?_,fun x hx => ?_⟩
 ·have hc := (h x hx).1
  refine ⟨?_,fun _ _ => rfl⟩
  rw [hc]
  simp [Ax]
  rfl
 ·simp at hx
 ·refine ⟨fun _ => ⟨(h x hx).1,rfl⟩,fun h1 => ?_⟩
  rw [(h x hx).2] at h1
  simp at h1
theorem AhM {d : At} (hd : Bt d) (n m : Int) (n0 : 0 ≤ n) (n1 : n ≤ 100) (m0 : 0 ≤ m) (m1 : m ≤ 100) : Ok (Ho d n m) (fun r => WfH r.1 ∧ Bt r.2 ∧ Bi r.1) := by
 refine AiL (fits_inv n m) hd n0 n1 m0 m1 fun c c0 c1 => ?_
 refine (Tree_inv hd n n0 (by omega) (fun _ t => WfT t → ∀ x ∈ t.nodes,x.control = 0 ∧ x.kind = 0) ?_ ?_ ?_ ?_).mono fun r ⟨a,b,s⟩ => ⟨a,b,AkU a (s a)⟩
 ·intro c _ _ _ x hx
  obtain rfl : x = { id := 1,parent := 0,name := ByteArray.empty,control := 0,kind := 0,owner := 0 } := by simpa [newT] using hx
  exact ⟨rfl,rfl⟩
 ·intro c t _ _ s
  exact s
 ·intro c t p s r w _ hp _ e hr _ x hx
  have g := (AdA w e hr).1
  rw [g.nodes] at hx
  rcases List.mem_append.mp hx with hx | hx
  ·exact hp w x hx
  ·obtain rfl : x = { id := t.next,parent := p,name := s,control := 0,kind := 0,owner := 0 } := by simpa using hx
   exact ⟨rfl,rfl⟩
 ·intro c t id r w _ hp e hr _ x hx
  refine hp w x ?_
  unfold Ke at e
  split at e
  ·subst e; simp at hr
  split at e
  ·subst e; simp at hr
  split at e
  ·subst e; simp at hr
  ·subst e
   exact (List.mem_filter.mp hx).1
end Go.Dm

/- Models of Go types and functions, printed by a program. -/
namespace Go.Dm
set_option linter.unusedVariables false
end Go.Dm

/- Models of Go types and functions, printed by a program. -/
namespace Go.Dm
set_option linter.unusedVariables false
def Pa (p0 : Int) : Option (Ae × Int × Int) := (some (({ nodes := [],next := 0 } : Ae),0,p0))
def AeN (p1 : Int) (p2 : ByteArray) (k1 : Nat) (x1 : Ag) (s1 : Unit) (n1 : Unit → Option Int) : Option Int := (if ((x1.parent == p1) && (Co x1.name p2)) then (some x1.id) else (n1 ()))
def AeG (s1 : Unit) : Option Int := (some 0)
def Xy (p0 : Ae) (p1 : Int) (p2 : ByteArray) : Option Int := (if p0.nodes.length ≤ 9223372036854775807 then Bd (AeN p1 p2) AeG p0.nodes 0 () else none)
def Qa (p0 : Ae) : Option Ae := (Option.bind (Kl p0) fun r1 => (if (!r1) then (some ({ nodes := [],next := 0 } : Ae)) else (some p0)))
def Uk (p0 : Ae) (p1 : Int) : Option (List Int) := (Option.bind (Qa p0) fun r1 => (Option.bind (Dq r1 p1) fun r2 => (some r2)))
def Wj (p0 : Ae) (p1 : Int) : Option Int := (Option.bind (Uk p0 p1) fun r1 => (some (w64 (((r1.length : Nat) : Int) - 1))))
def Ug (p0 : Ae) (p1 : Int) (p2 : ByteArray) (y2 : Bool) : Option (Ae × Int × Int) := (if y2 then (Option.bind (Pa 7) fun r16 => (some (r16.1,r16.2.1,r16.2.2))) else (Option.bind (Pj p0) fun r17 => (if r17.nodes.length + 1 ≤ 1073741824 then (some (({ nodes := (r17.nodes ++ [({ id := p0.next,parent := p1,name := p2,control := 0,kind := 0,owner := 0 } : Ag)]),next := (w64 (r17.next + 1)) } : Ae),p0.next,0)) else none)))
def Xd (p0 : Ae) (p1 : Int) (p2 : ByteArray) (y1 : Bool) : Option (Ae × Int × Int) := (if y1 then (Option.bind (Pa 1) fun r5 => (some (r5.1,r5.2.1,r5.2.2))) else (Option.bind (Eb p0 p1) fun r6 => (if (decide (r6 < 0)) then (Option.bind (Pa 4) fun r8 => (some (r8.1,r8.2.1,r8.2.2))) else (Option.bind (Xy p0 p1 p2) fun r9 => (if (r9 != 0) then (Option.bind (Pa 5) fun r11 => (some (r11.1,r11.2.1,r11.2.2))) else (Option.bind (Wj p0 p1) fun r12 => (if (decide (r12 ≥ 8)) then ((Ug p0 p1 p2) true) else (if (decide (((p0.nodes.length : Nat) : Int) ≥ 64)) then ((Ug p0 p1 p2) true) else ((Ug p0 p1 p2) (decide (p0.next > 2147483647)))))))))))
def AbG (p0 : Ae) (p1 : Int) (p2 : ByteArray) : Option (Ae × Int × Int) := (Option.bind (Kl p0) fun r1 => (if (!r1) then ((Xd p0 p1 p2) true) else (Option.bind (Uh p2) fun r3 => ((Xd p0 p1 p2) (!r3)))))
def Om (p0 : Aa) (p1 : Int) (p2 : ByteArray) : Option (Aa × Int × Int) := (Option.bind (Cs p0) fun r1 => (if (!r1) then (some (({ tree := ({ nodes := [],next := 0 } : Ae),tasks := [],next := 0 } : Aa),0,1)) else (Option.bind (AbG p0.tree p1 p2) fun r3 => (if (r3.2.2 != 0) then (some (({ tree := ({ nodes := [],next := 0 } : Ae),tasks := [],next := 0 } : Aa),0,r3.2.2)) else (Option.bind (Kx p0) fun r5 => (some (({ tree := r3.1,tasks := r5.tasks,next := r5.next } : Aa),r3.2.1,0)))))))
def Be (p0 : Int) : Option (Aa × Int) := (some (({ tree := ({ nodes := [],next := 0 } : Ae),tasks := [],next := 0 } : Aa),p0))
def Aal (p0 : Ae) (p1 : Int) : Option (Ag × Bool) := (Option.bind (Qa p0) fun r1 => (Option.bind (Eg r1 p1) fun r2 => (some (r2.1,r2.2))))
def AcE (p1 : Int) (k1 : Nat) (x1 : Ag) (s1 : Unit) (n1 : Unit → Option Int) : Option Int := (if ((x1.parent == p1) && (x1.kind == 1)) then (some 1) else (n1 ()))
def Ace (s1 : Unit) : Option Int := (some 0)
def Rp (p0 : Ae) (p1 : Int) : Option Int := (Option.bind (Aal p0 p1) fun r1 => (if (!r1.2) then (some 0) else (if (r1.1.kind == 1) then (some 2) else (Option.bind (Gp p0 p1) fun r4 => (if r4 then (some 3) else (if p0.nodes.length ≤ 9223372036854775807 then Bd (AcE p1) Ace p0.nodes 0 () else none))))))
def Iq (r4 : Int) (r19 : Aa) (y2 : Bool) : Option (Aa × Int) := (if y2 then (Option.bind (Be 6) fun r26 => (some (r26.1,r26.2))) else (some (({ tree := ({ nodes := (r19.tree.nodes.set (Int.toNat r4) ({ id := (r19.tree.nodes.getD (Int.toNat r4) (default : Ag)).id,parent := (r19.tree.nodes.getD (Int.toNat r4) (default : Ag)).parent,name := (r19.tree.nodes.getD (Int.toNat r4) (default : Ag)).name,control := (r19.tree.nodes.getD (Int.toNat r4) (default : Ag)).control,kind := 1,owner := (r19.tree.nodes.getD (Int.toNat r4) (default : Ag)).owner } : Ag)),next := r19.tree.next } : Ae),tasks := r19.tasks,next := r19.next } : Aa),0)))
def Gk (p0 : Aa) (p1 : Int) (r4 : Int) (y1 : Bool) : Option (Aa × Int) := (if y1 then (Option.bind (Be 10) fun r16 => (some (r16.1,r16.2))) else (if ((kand .i64 (p0.tree.nodes.getD (Int.toNat r4) (default : Ag)).control 6) != 0) then (Option.bind (Be 9) fun r18 => (some (r18.1,r18.2))) else (Option.bind (Kx p0) fun r19 => (if 0 ≤ r4 ∧ r4 < ((r19.tree.nodes.length : Nat) : Int) then (if (Int.toNat r4) < r19.tree.nodes.length then (Option.bind (Lx p0 p1) fun r22 => (if (decide (((r22.length : Nat) : Int) > 0)) then ((Iq r4 r19) true) else (Option.bind (Cs ({ tree := ({ nodes := (r19.tree.nodes.set (Int.toNat r4) ({ id := (r19.tree.nodes.getD (Int.toNat r4) (default : Ag)).id,parent := (r19.tree.nodes.getD (Int.toNat r4) (default : Ag)).parent,name := (r19.tree.nodes.getD (Int.toNat r4) (default : Ag)).name,control := (r19.tree.nodes.getD (Int.toNat r4) (default : Ag)).control,kind := 1,owner := (r19.tree.nodes.getD (Int.toNat r4) (default : Ag)).owner } : Ag)),next := r19.tree.next } : Ae),tasks := r19.tasks,next := r19.next } : Aa)) fun r24 => ((Iq r4 r19) (!r24))))) else none) else none))))
def My (p0 : Aa) (p1 : Int) : Option (Aa × Int) := (Option.bind (Cs p0) fun r1 => (if (!r1) then (Option.bind (Be 1) fun r3 => (some (r3.1,r3.2))) else (Option.bind (Eb p0.tree p1) fun r4 => (if (decide (r4 < 0)) then (Option.bind (Be 4) fun r6 => (some (r6.1,r6.2))) else (if 0 ≤ r4 ∧ r4 < ((p0.tree.nodes.length : Nat) : Int) then (Option.bind (Eg p0.tree (p0.tree.nodes.getD (Int.toNat r4) (default : Ag)).parent) fun r8 => (if ((p1 == 1) || ((p0.tree.nodes.getD (Int.toNat r4) (default : Ag)).kind == 1)) then (Option.bind (Be 9) fun r11 => (some (r11.1,r11.2))) else (Option.bind (Rp p0.tree (p0.tree.nodes.getD (Int.toNat r4) (default : Ag)).parent) fun r12 => (if (r12 == 3) then ((Gk p0 p1 r4) true) else (if ((p0.tree.nodes.getD (Int.toNat r4) (default : Ag)).parent != 1) then ((Gk p0 p1 r4) ((kand .i64 r8.1.control 6) != 0)) else ((Gk p0 p1 r4) false)))))) else none)))))
def Lt (n1 : (List Am) → Option (Aa × Int)) (y3 : List Am) : Option (Aa × Int) := (n1 y3)
def Uq (p1 : Int) (p2 : Int) (k1 : Int) (s1 : List Am) (n1 : (List Am) → Option (Aa × Int)) : Option (Aa × Int) := (if 0 ≤ k1 ∧ k1 < ((s1.length : Nat) : Int) then (if (Int.toNat k1) < s1.length then (if ((s1.getD (Int.toNat k1) (default : Am)).process == p1) then (if 0 ≤ k1 ∧ k1 < ((s1.length : Nat) : Int) then (if (Int.toNat k1) < s1.length then ((Lt n1) (s1.set (Int.toNat k1) ({ id := (s1.getD (Int.toNat k1) (default : Am)).id,process := (s1.getD (Int.toNat k1) (default : Am)).process,group := p2,user := (s1.getD (Int.toNat k1) (default : Am)).user } : Am))) else none) else none) else ((Lt n1) s1)) else none) else none)
def Aau (r15 : Aa) (s1 : List Am) : Option (Aa × Int) := (some (({ tree := r15.tree,tasks := s1,next := r15.next } : Aa),0))
def Of (p0 : Aa) (p1 : Int) (p2 : Int) : Option (Aa × Int) := (Option.bind (Cs p0) fun r1 => (if (!r1) then (Option.bind (Be 1) fun r3 => (some (r3.1,r3.2))) else (Option.bind (Oh p0 p1) fun r4 => (Option.bind (Eg p0.tree p2) fun r5 => (if (((!r4.2) || (r4.1.process != p1)) || (!r5.2)) then (Option.bind (Be 4) fun r9 => (some (r9.1,r9.2))) else (if (r5.1.kind == 1) then (Option.bind (Be 10) fun r11 => (some (r11.1,r11.2))) else (Option.bind (Lg p0 p2) fun r12 => (if (r12 != 0) then (Option.bind (Be r12) fun r14 => (some (r14.1,r14.2))) else (Option.bind (Kx p0) fun r15 => (if r15.tasks.length ≤ 9223372036854775807 then (forO (Uq p1 p2) (Aau r15) (Int.toNat (((r15.tasks.length : Nat) : Int) - 0)) 0 r15.tasks) else none))))))))))
def Hh (p0 : Aa) (p2 : Int) (r4 : Int) (y1 : Bool) : Option (Aa × Int) := (if y1 then (Option.bind (Be 4) fun r8 => (some (r8.1,r8.2))) else (Option.bind (Lg p0 p2) fun r9 => (if (r9 != 0) then (Option.bind (Be r9) fun r11 => (some (r11.1,r11.2))) else (if 0 ≤ r4 ∧ r4 < ((p0.tasks.length : Nat) : Int) then (Option.bind (Hl p0.tree (p0.tasks.getD (Int.toNat r4) (default : Am)).group) fun r13 => (Option.bind (Hl p0.tree p2) fun r14 => (if (r13 != r14) then (Option.bind (Be 9) fun r16 => (some (r16.1,r16.2))) else (Option.bind (Kx p0) fun r17 => (if 0 ≤ r4 ∧ r4 < ((r17.tasks.length : Nat) : Int) then (if (Int.toNat r4) < r17.tasks.length then (some (({ tree := r17.tree,tasks := (r17.tasks.set (Int.toNat r4) ({ id := (r17.tasks.getD (Int.toNat r4) (default : Am)).id,process := (r17.tasks.getD (Int.toNat r4) (default : Am)).process,group := p2,user := (r17.tasks.getD (Int.toNat r4) (default : Am)).user } : Am)),next := r17.next } : Aa),0)) else none) else none))))) else none))))
def Im (p0 : Aa) (p1 : Int) (p2 : Int) : Option (Aa × Int) := (Option.bind (Cs p0) fun r1 => (if (!r1) then (Option.bind (Be 1) fun r3 => (some (r3.1,r3.2))) else (Option.bind (Ue p0 p1) fun r4 => (if (decide (r4 < 0)) then ((Hh p0 p2 r4) true) else (Option.bind (Eb p0.tree p2) fun r6 => ((Hh p0 p2 r4) (decide (r6 < 0))))))))
def Rx (p0 : Int) : Option Bool := (some ((decide (p0 ≥ 0)) && ((Ax .i64 p0 31) == 0)))
def Acj (p1 : Int) (p3 : Int) (k1 : Nat) (x1 : Ag) (s1 : Unit) (n1 : Unit → Option (Aa × Int)) : Option (Aa × Int) := (if ((x1.parent == p1) && ((kand .i64 x1.control p3) != 0)) then (some (({ tree := ({ nodes := [],next := 0 } : Ae),tasks := [],next := 0 } : Aa),9)) else (n1 ()))
def Jk (p0 : Aa) (p2 : Int) (p3 : Int) (r8 : Int) (y4 : Bool) : Option (Aa × Int) := (if y4 then (some (({ tree := ({ nodes := [],next := 0 } : Ae),tasks := [],next := 0 } : Aa),6)) else (Option.bind (Kx p0) fun r42 => (if 0 ≤ r8 ∧ r8 < ((r42.tree.nodes.length : Nat) : Int) then (if (Int.toNat r8) < r42.tree.nodes.length then (some (({ tree := ({ nodes := (r42.tree.nodes.set (Int.toNat r8) ({ id := (r42.tree.nodes.getD (Int.toNat r8) (default : Ag)).id,parent := (r42.tree.nodes.getD (Int.toNat r8) (default : Ag)).parent,name := (r42.tree.nodes.getD (Int.toNat r8) (default : Ag)).name,control := (kor .i64 (Ax .i64 (p0.tree.nodes.getD (Int.toNat r8) (default : Ag)).control p3) p2),kind := (r42.tree.nodes.getD (Int.toNat r8) (default : Ag)).kind,owner := (r42.tree.nodes.getD (Int.toNat r8) (default : Ag)).owner } : Ag)),next := r42.tree.next } : Ae),tasks := r42.tasks,next := r42.next } : Aa),0)) else none) else none)))
def Sc (p0 : Aa) (p1 : Int) (p2 : Int) (p3 : Int) (r8 : Int) (s1 : Unit) : Option (Aa × Int) := (if ((kand .i64 (Ax .i64 (kor .i64 (Ax .i64 (p0.tree.nodes.getD (Int.toNat r8) (default : Ag)).control p3) p2) (p0.tree.nodes.getD (Int.toNat r8) (default : Ag)).control) 6) != 0) then (if (p1 != 1) then (Option.bind (Lx p0 p1) fun r40 => ((Jk p0 p2 p3 r8) (decide (((r40.length : Nat) : Int) > 0)))) else ((Jk p0 p2 p3 r8) false)) else ((Jk p0 p2 p3 r8) false))
def Ji (p0 : Aa) (p1 : Int) (p2 : Int) (p3 : Int) (y1 : Bool) : Option (Aa × Int) := (if y1 then (some (({ tree := ({ nodes := [],next := 0 } : Ae),tasks := [],next := 0 } : Aa),1)) else (Option.bind (Eb p0.tree p1) fun r8 => (if (decide (r8 < 0)) then (some (({ tree := ({ nodes := [],next := 0 } : Ae),tasks := [],next := 0 } : Aa),4)) else (if 0 ≤ r8 ∧ r8 < ((p0.tree.nodes.length : Nat) : Int) then (Option.bind (Po p0.tree (p0.tree.nodes.getD (Int.toNat r8) (default : Ag))) fun r11 => (if ((Ax .i64 p2 r11) != 0) then (some (({ tree := ({ nodes := [],next := 0 } : Ae),tasks := [],next := 0 } : Aa),9)) else (if p0.tree.nodes.length ≤ 9223372036854775807 then Bd (Acj p1 p3) (Sc p0 p1 p2 p3 r8) p0.tree.nodes 0 () else none))) else none))))
def Ri (p0 : Aa) (p1 : Int) (p2 : Int) (p3 : Int) : Option (Aa × Int) := (Option.bind (Li p0) fun r1 => (if (!r1) then ((Ji p0 p1 p2 p3) true) else (Option.bind (Rx p2) fun r3 => (if (!r3) then ((Ji p0 p1 p2 p3) true) else (Option.bind (Rx p3) fun r5 => (if (!r5) then ((Ji p0 p1 p2 p3) true) else ((Ji p0 p1 p2 p3) ((kand .i64 p2 p3) != 0))))))))
def Oj (p0 : Aa) (p1 : Int) (p2 : Int) (p3 : Int) : Option (Aa × Int) := (Option.bind (Cs p0) fun r1 => (if (!r1) then (Option.bind (Be 1) fun r3 => (some (r3.1,r3.2))) else (Option.bind (Ri p0 p1 p2 p3) fun r4 => (if (r4.2 != 0) then (Option.bind (Be r4.2) fun r6 => (some (r6.1,r6.2))) else (Option.bind (Cs r4.1) fun r7 => (if (!r7) then (Option.bind (Be 10) fun r9 => (some (r9.1,r9.2))) else (some (r4.1,0))))))))
def Dd (p0 : Int) : Option Bool := (some ((decide (p0 ≥ 0)) && (decide (p0 ≤ 1048576))))
def Se (p0 : Int) (p1 : Ae) (p2 : Int) : Option Bool := (Option.bind (Eg p1 p0) fun r1 => (some (r1.1.owner == p2)))
def Ge (p1c0 : Ae) (p1c1 : Int) (k1 : Nat) (x1 : Int) (s1 : Unit) (n1 : Unit → Option Int) : Option Int := (Option.bind (Se x1 p1c0 p1c1) fun r10 => (if r10 then (some ((k1 : Nat) : Int)) else (n1 ())))
def Ju (s1 : Unit) : Option Int := (some (-1))
def Ed (p0 : List Int) (p1c0 : Ae) (p1c1 : Int) : Option Int := (if p0.length ≤ 9223372036854775807 then Bd (Ge p1c0 p1c1) Ju p0 0 () else none)
def Dn (p0 : List Int) (p1c0 : Ae) (p1c1 : Int) : Option Bool := (Option.bind (Ed p0 p1c0 p1c1) fun r1 => (some (decide (r1 ≥ 0))))
def Nv (p0 : Ae) (p1 : Int) (p2 : List Int) : Option Bool := (Option.bind (Dn p2 p0 p1) fun r1 => (some r1))
def Hn (y1 : Bool) : Option Bool := (some y1)
def Ll (p0 : Ae) (p1 : Int) (p2 : Int) : Option Bool := (Option.bind (Dq p0 p2) fun r1 => (Option.bind (Dd p1) fun r2 => (if r2 then (if (decide (((r1.length : Nat) : Int) > 0)) then (if (p1 == 0) then (Hn true) else (if 1 ≤ r1.length then (Option.bind (Nv p0 p1 ((r1.drop 1).take (Cc r1.length 1))) fun r7 => (Hn r7)) else none)) else (Hn false)) else (Hn false))))
def Mu (p0 : Ae) (p1 : Int) (p2 : Int) (p3 : Int) (r1 : Int) (y1 : Bool) : Option (Ae × Int) := (if y1 then (some (({ nodes := [],next := 0 } : Ae),1)) else (if (decide (r1 < 0)) then (some (({ nodes := [],next := 0 } : Ae),4)) else (if (p2 == 1) then (some (({ nodes := [],next := 0 } : Ae),9)) else (Option.bind (Ll p0 p1 p2) fun r10 => (if (!r10) then (some (({ nodes := [],next := 0 } : Ae),8)) else (Option.bind (Dt p0.nodes) fun r12 => (if 0 ≤ r1 ∧ r1 < ((r12.length : Nat) : Int) then (if (Int.toNat r1) < r12.length then (some (({ nodes := (r12.set (Int.toNat r1) ({ id := (r12.getD (Int.toNat r1) (default : Ag)).id,parent := (r12.getD (Int.toNat r1) (default : Ag)).parent,name := (r12.getD (Int.toNat r1) (default : Ag)).name,control := (r12.getD (Int.toNat r1) (default : Ag)).control,kind := (r12.getD (Int.toNat r1) (default : Ag)).kind,owner := p3 } : Ag)),next := p0.next } : Ae),0)) else none) else none)))))))
def Yu (p0 : Ae) (p1 : Int) (p2 : Int) (p3 : Int) : Option (Ae × Int) := (Option.bind (Eb p0 p2) fun r1 => (Option.bind (Kl p0) fun r2 => (if (!r2) then ((Mu p0 p1 p2 p3 r1) true) else (Option.bind (Dd p1) fun r4 => (if (!r4) then ((Mu p0 p1 p2 p3 r1) true) else (Option.bind (Dd p3) fun r6 => ((Mu p0 p1 p2 p3 r1) (!r6))))))))
def Ic (y1 : Bool) : Option Bool := (some y1)
def Ip (p0 : Ae) (p1 : Int) (p2 : Int) : Option Bool := (Option.bind (Ll p0 p1 p2) fun r1 => (if r1 then (Ic true) else (Option.bind (Dd p1) fun r3 => (if r3 then (if (p1 != 0) then (Option.bind (Dq p0 p2) fun r6 => (Option.bind (Nv p0 p1 r6) fun r7 => (Ic r7))) else (Ic false)) else (Ic false)))))
def Er (p0 : Aa) (p1 : Int) (p2 : Int) (y1 : Bool) : Option Int := (if y1 then (some 1) else (Option.bind (Eb p0.tree p2) fun r5 => (if (decide (r5 < 0)) then (some 4) else (Option.bind (Ip p0.tree p1 p2) fun r7 => (if (!r7) then (some 8) else (some 0))))))
def Ds (p0 : Aa) (p1 : Int) (p2 : Int) : Option Int := (Option.bind (Dd p1) fun r1 => (if (!r1) then ((Er p0 p1 p2) true) else (Option.bind (Cs p0) fun r3 => ((Er p0 p1 p2) (!r3)))))
def La (p0 : Aa) (p1 : Int) (p2 : Int) (p3 : ByteArray) : Option (Aa × Int × Int) := (Option.bind (Ds p0 p1 p2) fun r1 => (if (r1 != 0) then (some (({ tree := ({ nodes := [],next := 0 } : Ae),tasks := [],next := 0 } : Aa),0,r1)) else (Option.bind (Om p0 p2 p3) fun r3 => (some (r3.1,r3.2.1,r3.2.2)))))
def Ce (p0 : Int) : Option (Aa × Int) := (some (({ tree := ({ nodes := [],next := 0 } : Ae),tasks := [],next := 0 } : Aa),p0))
def Xm (r1 : List Int) (k1 : Nat) (x1 : Int) (s1 : Unit) (n1 : Unit → Option (Int × Bool)) : Option (Int × Bool) := (Option.bind (Jt r1 x1) fun r14 => (if r14 then (some (x1,true)) else (n1 ())))
def Acx (s1 : Unit) : Option (Int × Bool) := (some (0,false))
def Rj (p0 : Ae) (p1 : Int) (p2 : Int) : Option (Int × Bool) := (Option.bind (Dq p0 p2) fun r1 => (Option.bind (Dq p0 p1) fun r2 => (if r2.length ≤ 9223372036854775807 then Bd (Xm r1) Acx r2 0 () else none)))
def Kc (n1 : Unit → Option Int) (y3 : Bool) : Option Int := (if y3 then (some 8) else (n1 ()))
def Wa (p0 : Aa) (p1 : Int) (p2 : Int) (k1 : Nat) (x1 : Int) (s1 : Unit) (n1 : Unit → Option Int) : Option Int := (Option.bind (Oh p0 x1) fun r24 => (Option.bind (Rj p0.tree p2 r24.1.group) fun r25 => (if (p1 != 0) then (if (r24.1.user != p1) then ((Kc n1) true) else (Option.bind (Ip p0.tree p1 r25.1) fun r28 => ((Kc n1) (!r28)))) else (Option.bind (Ip p0.tree p1 r25.1) fun r29 => ((Kc n1) (!r29))))))
def Abs (s1 : Unit) : Option Int := (some 0)
def Mk (p0 : Aa) (p1 : Int) (p2 : Int) (p3 : List Int) : Option Int := (Option.bind (Eb p0.tree p2) fun r1 => (if (decide (r1 < 0)) then (some 4) else (Option.bind (Ip p0.tree p1 p2) fun r3 => (if (!r3) then (some 8) else (if p3.length ≤ 9223372036854775807 then Bd (Wa p0 p1 p2) Abs p3 0 () else none)))))
def Pc (p0 : Aa) (p1 : Int) (p2 : Int) (p3 : Int) (y1 : Bool) : Option (Aa × Int) := (if y1 then (Option.bind (Ce 1) fun r5 => (some (r5.1,r5.2))) else (Option.bind (Oh p0 p2) fun r6 => (if ((!r6.2) || (r6.1.process != p2)) then (Option.bind (Ce 4) fun r9 => (some (r9.1,r9.2))) else (Option.bind (Th p0 p2) fun r10 => (Option.bind (Mk p0 p1 p3 r10) fun r11 => (if (r11 != 0) then (Option.bind (Ce r11) fun r13 => (some (r13.1,r13.2))) else (Option.bind (Of p0 p2 p3) fun r14 => (some (r14.1,r14.2)))))))))
def Lk (p0 : Aa) (p1 : Int) (p2 : Int) (p3 : Int) : Option (Aa × Int) := (Option.bind (Dd p1) fun r1 => (if (!r1) then ((Pc p0 p1 p2 p3) true) else (Option.bind (Cs p0) fun r3 => ((Pc p0 p1 p2 p3) (!r3)))))
def Wh : Option Bool := (Option.bind AdC fun r1 => (Option.bind (AcJ r1 1 (bs [97])) fun r2 => (Option.bind (Yu r2.1.tree 0 r2.2.1 7) fun r4 => (Option.bind (La ({ tree := r4.1,tasks := r2.1.tasks,next := r2.1.next } : Aa) 7 r2.2.1 (bs [98])) fun r7 => (Option.bind (Qr r7.1 1 7) fun r10 => (Option.bind (Qr r10.1 r2.2.1 7) fun r13 => (Option.bind (Lk r13.1 7 r10.2.1 r2.2.1) fun r16 => (Option.bind (Lk r13.1 7 r13.2.1 r7.2.1) fun r17 => (some ((((r4.2 == 0) && (r7.2.2 == 0)) && (r16.2 == 8)) && (r17.2 == 0)))))))))))
def Wf (p0 : Int) : Option Bool := (some ((decide (p0 ≥ 0)) && (decide (p0 ≤ 1048576))))
def AcG (p0 : Ae) (p1 : Int) (r1 : List Int) (k1 : Int) (s1 : Unit) (n1 : Unit → Option Bool) : Option Bool := (if 0 ≤ k1 ∧ k1 < ((r1.length : Nat) : Int) then (if (Int.toNat k1) < r1.length then (Option.bind (Cn p0 (r1.getD (Int.toNat k1) 0)) fun r19 => (if (r19.1.owner == p1) then (some true) else (n1 ()))) else none) else none)
def Agk (s1 : Unit) : Option Bool := (some false)
def Rw (p0 : Ae) (p1 : Int) (r1 : List Int) (y1 : Bool) : Option Bool := (if y1 then (some false) else (if (p1 == 0) then (some true) else (if r1.length ≤ 9223372036854775807 then (forO (AcG p0 p1 r1) Agk (Int.toNat (((r1.length : Nat) : Int) - 1)) 1 ()) else none)))
def Wg (p0 : Ae) (p1 : Int) (p2 : Int) : Option Bool := (Option.bind (Hc p0 p2) fun r1 => (if (((r1.length : Nat) : Int) == 0) then ((Rw p0 p1 r1) true) else (Option.bind (Wf p1) fun r3 => ((Rw p0 p1 r1) (!r3)))))
def Kp (y1 : Bool) : Option Bool := (some y1)
def Xb (p0 : Ae) (p1 : Int) (p2 : Int) : Option Bool := (Option.bind (Cn p0 p2) fun r1 => (if r1.2 then (Option.bind (Wg p0 p1 p2) fun r3 => (if r3 then (Kp true) else (Option.bind (Wf p1) fun r5 => (if r5 then (if (p1 != 0) then (Kp (r1.1.owner == p1)) else (Kp false)) else (Kp false))))) else (Kp false)))
def Ik (p0 : Aa) (p1 : Int) (p2 : Int) (p3 : Int) (y1 : Bool) : Option (Aa × Int) := (if y1 then (Option.bind (Ce 1) fun r5 => (some (r5.1,r5.2))) else (Option.bind (Ue p0 p2) fun r6 => (if (decide (r6 < 0)) then (Option.bind (Ce 4) fun r8 => (some (r8.1,r8.2))) else (Option.bind (Mk p0 p1 p3 [p2]) fun r9 => (if (r9 != 0) then (Option.bind (Ce r9) fun r11 => (some (r11.1,r11.2))) else (Option.bind (Im p0 p2 p3) fun r12 => (some (r12.1,r12.2))))))))
def Jv (p0 : Aa) (p1 : Int) (p2 : Int) (p3 : Int) : Option (Aa × Int) := (Option.bind (Dd p1) fun r1 => (if (!r1) then ((Ik p0 p1 p2 p3) true) else (Option.bind (Cs p0) fun r3 => ((Ik p0 p1 p2 p3) (!r3)))))
def Eu (p0 : Aa) (p1 : Int) (p2 : Int) (y1 : Bool) : Option Int := (if y1 then (some 1) else (Option.bind (Eb p0.tree p2) fun r5 => (if (decide (r5 < 0)) then (some 4) else (Option.bind (Ll p0.tree p1 p2) fun r7 => (if (!r7) then (some 8) else (some 0))))))
def Ea (p0 : Aa) (p1 : Int) (p2 : Int) : Option Int := (Option.bind (Dd p1) fun r1 => (if (!r1) then ((Eu p0 p1 p2) true) else (Option.bind (Cs p0) fun r3 => ((Eu p0 p1 p2) (!r3)))))
def Oe (p0 : Aa) (p1 : Int) (p2 : Int) : Option (Aa × Int) := (Option.bind (Ea p0 p1 p2) fun r1 => (if (r1 != 0) then (Option.bind (Ce r1) fun r3 => (some (r3.1,r3.2))) else (Option.bind (Rm p0 p2) fun r4 => (some (r4.1,r4.2)))))
def Ka (p0 : Aa) (p1 : Int) (p2 : Int) (p3 : Int) (p4 : Int) : Option (Aa × Int) := (Option.bind (Ds p0 p1 p2) fun r1 => (if (r1 != 0) then (Option.bind (Ce r1) fun r3 => (some (r3.1,r3.2))) else (Option.bind (Oj p0 p2 p3 p4) fun r4 => (some (r4.1,r4.2)))))
def Mx (p0 : Aa) (p1 : Int) (p2 : Int) : Option (Aa × Int) := (Option.bind (Ea p0 p1 p2) fun r1 => (if (r1 != 0) then (Option.bind (Ce r1) fun r3 => (some (r3.1,r3.2))) else (Option.bind (My p0 p2) fun r4 => (some (r4.1,r4.2)))))
end Go.Dm

/- Plain theory, part 31: threaded's functions. -/
namespace Go.Dm
theorem Akf {t : Ae} (w : WfT t) (id : Int) : Aal t id = some (As t id,Aw t id) := by
 unfold Aal Qa
 rw [Xf w]
 simp only [Option.bind_some,Bool.not_true,Bool.false_eq_true,if_false]
 rw [AaH w]
 rfl
theorem Ahi {t : Ae} (w : WfT t) (id : Int) : Rp t id = some (Db t id) := by
 have l2 := w.len2
 unfold Rp Db
 rw [Akf w,Option.bind_some]
 cases hg : Aw t id with
 | false => rfl
 | true =>
  simp only [Bool.not_true,Bool.false_eq_true,if_false]
  show (if Cu t id = true then _ else _) = _
  cases hk : Cu t id with
  | true => rfl
  | false =>
   simp only [Bool.false_eq_true,if_false]
   rw [Ob w,Option.bind_some]
   cases hi : Lz t id with
   | true => rfl
   | false =>
    simp only [Bool.false_eq_true,if_false]
    rw [if_pos (by omega),Hw (p := fun x : Ag => (x.parent == id) && (x.kind == 1)) (f := fun _ => (1 : Int)) (z := 0) (fun k x n => rfl) rfl]
    congr 1
    cases hf : t.nodes.find? (fun x : Ag => (x.parent == id) && (x.kind == 1)) with
    | none =>
     rw [List.find?_eq_none] at hf
     have : (En t id).any (Cu t) = false := by
      rw [List.any_eq_false]
      intro c hc hth
      obtain ⟨x,hx,hp,rfl⟩ := kids_iff.mp hc
      unfold Cu at hth
      rw [Pg w hx] at hth
      exact hf x hx (by simp [hp]; simpa using hth)
     rw [this]
     rfl
    | some x =>
     have h1 := List.find?_some hf
     have hx := List.mem_of_find?_eq_some hf
     simp only [Bool.and_eq_true,beq_iff_eq] at h1
     have : (En t id).any (Cu t) = true := by
      rw [List.any_eq_true]
      refine ⟨x.id,kids_iff.mpr ⟨x,hx,h1.1,rfl⟩,?_⟩
      unfold Cu
      rw [Pg w hx]
      simpa using h1.2
     rw [this]
     rfl
theorem for_map {α R : Type} {f : α → α} {d : α} {L : List α} {body : Int → List α → (List α → Option R) → Option R} {done : List α → Option R}
  (hb : ∀ (M : List α) (m : Nat) n,M.length = L.length → m < M.length → body (m : Int) M n = n (M.set m (f (M.getD m d)))) : forO body done L.length 0 L = done (L.map f) := by
 have key : ∀ (B A : List α),A.length + B.length = L.length → forO body done B.length (A.length : Int) (A.map f ++ B) = done (A.map f ++ B.map f) := by
  intro B
  induction B with
  | nil => intro A _; rfl
  | cons x B ih =>
   intro A hl
   simp only [List.length_cons] at hl ⊢
   rw [forO,hb _ _ _ (by simp; omega) (by simp)]
   have e1 : (A.map f ++ x :: B).getD A.length d = x := by
    have := Abj (pre := A.map f) (post := B) (x := x) (d := d)
    rw [List.length_map] at this
    exact this
   have e2 : (A.map f ++ x :: B).set A.length (f x) = (A ++ [x]).map f ++ B := by
    rw [List.set_append]
    simp
   rw [e1,e2]
   have := ih (A ++ [x]) (by simp; omega)
   rw [show ((A.length : Int) + 1) = (((A ++ [x]).length : Nat) : Int) by simp,this]
   simp
 have := key L [] (by simp)
 simpa using this
theorem AfJ {h : Aa} (f : Bi h) (k g : Int) : Of h k g = some (attK h k g) := by
 have w := f.snd.wf
 have l1 := w.len
 have l2 := w.tree.len2
 unfold Of attK Be
 rw [Ee f,Option.bind_some,if_neg (by simp),findC w,Option.bind_some,AaH w.tree,Option.bind_some]
 have hc : ((!(Bg h.tasks k).isSome || ((Bg h.tasks k).getD zK).process != k) || !Aw h.tree g) = !((Bg h.tasks k).isSome && (((Bg h.tasks k).getD zK).process == k) && Aw h.tree g) := by
  cases (Bg h.tasks k).isSome <;> cases Aw h.tree g <;> simp [bne]
 simp only
 rw [hc]
 cases hx : (!((Bg h.tasks k).isSome && (((Bg h.tasks k).getD zK).process == k) && Aw h.tree g)) with
 | true => rfl
 | false =>
  simp only [Bool.false_eq_true,if_false]
  have hg : Aw h.tree g = true := by
   simp only [Bool.not_eq_false',Bool.and_eq_true] at hx
   exact hx.2
  have ht : (Db h.tree g == 2) = ((As h.tree g).kind == 1) := by
   unfold Db
   rw [hg]
   simp only [Bool.not_true,Bool.false_eq_true,if_false]
   show _ = Cu h.tree g
   cases Cu h.tree g
   ·simp only [Bool.false_eq_true,if_false]
    cases Lz h.tree g <;> cases (En h.tree g).any (Cu h.tree) <;> rfl
   ·rfl
  rw [ht]
  cases hk : ((As h.tree g).kind == 1) with
  | true => rfl
  | false =>
   simp only [Bool.false_eq_true,if_false]
   rw [Aay w,Option.bind_some]
   cases ha : (Jw h.tree g != 0) with
   | true => rfl
   | false =>
    simp only [Bool.false_eq_true,if_false]
    rw [Nk h (by omega) (by omega),Option.bind_some,if_pos (by omega)]
    have hn : Int.toNat (((h.tasks.length : Nat) : Int) - 0) = h.tasks.length := by omega
    rw [hn,for_map (f := Ql k g) (d := default) (L := h.tasks) fun M m n hM hm => by
     unfold Uq Lt
     have em : Int.toNat (m : Int) = m := by omega
     rw [em,if_pos (by omega),if_pos (by omega)]
     unfold Ql
     cases hp : ((M.getD m default).process == k)
     ·simp only [Bool.false_eq_true,if_false]
      rw [AjQ hm]
     ·simp only [if_true]
      rw [if_pos (by omega),if_pos (by omega)]]
    rfl
theorem put_at {L : List Am} (hs : L.Pairwise (fun a b => a.id < b.id)) {i : Nat} (hi : i < L.length) {k g : Int} (e : (L.getD i default).id = k) :
  L.set i { id := (L.getD i default).id,process := (L.getD i default).process,group := g,user := (L.getD i default).user } = L.map (Nq k g) := by
 apply List.ext_getElem
 ·simp
 ·intro j h1 h2
  rw [List.getElem_set,List.getElem_map]
  have hj : j < L.length := by simpa using h1
  have eg : L.getD i default = L[i] := Pr hi
  rw [eg] at e
  simp only [eg]
  by_cases ej : i = j
  ·subst ej
   rw [if_pos rfl]
   unfold Nq
   rw [if_pos (by simpa using e)]
  ·rw [if_neg ej]
   unfold Nq
   rw [if_neg]
   intro he
   have he' : L[j].id = k := by simpa using he
   have := Za hs (List.getElem_mem hi) (List.getElem_mem hj) (by omega)
   have hp := List.pairwise_iff_getElem.mp hs
   rcases Nat.lt_or_gt_of_ne ej with h | h
   ·have := hp i j hi hj h
    omega
   ·have := hp j i hj hi h
    omega
theorem AbQ {h : Aa} (f : Bi h) (k g : Int) : Im h k g = some (Wk h k g) := by
 have w := f.snd.wf
 have l1 := w.len
 have l2 := w.tree.len2
 unfold Im Wk Be
 rw [Ee f,Option.bind_some,if_neg (by simp)]
 rcases Mh (fun x : Am => x.id == k) h.tasks default with ⟨i,h1,h2,h3⟩ | ⟨h1,h2⟩
 ·have hk : Bg h.tasks k = some (h.tasks.getD i default) := h3
  have hid := (Mg hk).2
  have hAt : Ue h k = some (i : Int) := by
   rw [AaO h k (by omega),h2]
   rfl
  have hi0 : decide ((i : Int) < 0) = false := by simp
  rw [hAt,Option.bind_some,hk,hi0]
  simp only [Option.isSome_some,Bool.true_and,Bool.false_eq_true,if_false]
  obtain ⟨q,eq,hq,_⟩ := Lj h.tree g (by omega)
  rw [eq,Option.bind_some,hq]
  unfold Hh Be
  cases hg : Aw h.tree g with
  | false => rfl
  | true =>
   simp only [Bool.not_true,Bool.false_eq_true,if_false]
   rw [Aay w,Option.bind_some]
   cases ha : (Jw h.tree g != 0) with
   | true => rfl
   | false =>
    simp only [Bool.false_eq_true,if_false]
    have em : Int.toNat (i : Int) = i := by omega
    rw [if_pos (by omega),em,Pm w.tree,Option.bind_some,Pm w.tree,Option.bind_some]
    have hgk : Abv h k = (h.tasks.getD i default).group := by
     unfold Abv
     rw [hk]
     rfl
    rw [hgk]
    have hsw : (Ei h.tree (h.tasks.getD i default).group != Ei h.tree g) = (Ei h.tree g != Ei h.tree (h.tasks.getD i default).group) := by
     rw [Bool.eq_iff_iff]
     simp only [bne_iff_ne]
     exact ⟨fun a b => a b.symm,fun a b => a b.symm⟩
    rw [hsw]
    cases hd : (Ei h.tree g != Ei h.tree (h.tasks.getD i default).group) with
    | true => rfl
    | false =>
     simp only [Bool.false_eq_true,if_false]
     rw [Nk h (by omega) (by omega),Option.bind_some,if_pos (by omega),if_pos h1,put_at w.sorted h1 hid]
 ·have hk : Bg h.tasks k = none := h2
  rw [AaO h k (by omega),h1,hk]
  rfl
end Go.Dm

/- Plain theory, part 32: new groups. -/
namespace Go.Dm
theorem AiR {t : Ae} (w : WfT t) : Pj t = some t := by
 have l2 := w.len2
 unfold Pj Dt
 rw [if_pos (by omega)]
 rfl
theorem AkF {t : Ae} (w : WfT t) (p : Int) {s : ByteArray} (hs : s.size ≤ 1073741824) : AbG t p s = some (Ry t p s) := by
 have l2 := w.len2
 have hnx := w.nextLe
 have hnx1 : 1 ≤ t.next := by
  obtain ⟨x,r,e,hx⟩ := w.root
  have := w.next x (by rw [e]; simp)
  have := hx.id
  omega
 unfold AbG Ry
 rw [Xf w,Option.bind_some,if_neg (by simp),Aeg s (by omega),Option.bind_some]
 unfold Xd Pa
 cases hv : Dj s with
 | false => rfl
 | true =>
  simp only [Bool.not_true,Bool.false_eq_true,if_false]
  obtain ⟨q,eq,hq,_⟩ := Lj t p (by omega)
  rw [eq,Option.bind_some,hq]
  cases hp : Aw t p with
  | false => rfl
  | true =>
   simp only [Bool.not_true,Bool.false_eq_true,if_false]
   have hch : Xy t p s = some ((t.nodes.find? (fun x => x.parent == p && Co x.name s)).elim 0 (·.id)) := by
    unfold Xy
    rw [if_pos (by omega)]
    exact Hw (fun k x n => rfl) rfl
   rw [hch,Option.bind_some]
   have hany : (((t.nodes.find? (fun x => x.parent == p && Co x.name s)).elim 0 (·.id) : Int) != 0) = t.nodes.any (fun x => x.parent == p && Co x.name s) := by
    cases hf : t.nodes.find? (fun x => x.parent == p && Co x.name s) with
    | none =>
     rw [List.find?_eq_none] at hf
     symm
     rw [List.any_eq_false.mpr hf]
     rfl
    | some x =>
     have h1 := List.find?_some hf
     have hx := List.mem_of_find?_eq_some hf
     have := w.id_pos hx
     rw [List.any_eq_true.mpr ⟨x,hx,h1⟩]
     simp
     omega
   rw [hany]
   cases ha : t.nodes.any (fun x => x.parent == p && Co x.name s) with
   | true => rfl
   | false =>
    simp only [Bool.false_eq_true,if_false]
    have hul : (upT t p).length ≤ t.nodes.length := by
     have := Qx t.nodes.reverse p
     simpa [upT] using this
    have hdp : Wj t p = some (((upT t p).length : Int) - 1) := by
     unfold Wj Uk Qa
     rw [Xf w]
     simp only [Option.bind_some,Bool.not_true,Bool.false_eq_true,if_false]
     rw [Gr w]
     simp only [Option.bind_some]
     rw [Bu (by omega) (by omega)]
    rw [hdp,Option.bind_some]
    unfold Ug Pa
    by_cases h9 : 9 ≤ (upT t p).length
    ·have e1 : decide (((upT t p).length : Int) - 1 ≥ 8) = true := decide_eq_true (by omega)
     have e2 : decide (9 ≤ (upT t p).length) = true := decide_eq_true h9
     rw [e1,e2]
     rfl
    ·have e1 : decide (((upT t p).length : Int) - 1 ≥ 8) = false := decide_eq_false (by omega)
     have e2 : decide (9 ≤ (upT t p).length) = false := decide_eq_false h9
     rw [e1,e2]
     simp only [Bool.false_eq_true,if_false,Bool.false_or]
     by_cases h64 : 64 ≤ t.nodes.length
     ·have e3 : decide (((t.nodes.length : Nat) : Int) ≥ 64) = true := decide_eq_true (by omega)
      have e4 : decide (64 ≤ t.nodes.length) = true := decide_eq_true h64
      rw [e3,e4]
      rfl
     ·have e3 : decide (((t.nodes.length : Nat) : Int) ≥ 64) = false := decide_eq_false (by omega)
      have e4 : decide (64 ≤ t.nodes.length) = false := decide_eq_false h64
      rw [e3,e4]
      simp only [Bool.false_eq_true,if_false,Bool.false_or]
      by_cases hn : 2147483647 < t.next
      ·have e5 : decide (t.next > 2147483647) = true := decide_eq_true hn
       rw [e5]
       rfl
      ·have e5 : decide (t.next > 2147483647) = false := decide_eq_false hn
       rw [e5]
       simp only [Bool.false_eq_true,if_false]
       rw [AiR w,Option.bind_some,if_pos (by omega),Bu (by omega) (by omega)]
def Qk (h : Aa) (p : Int) (s : ByteArray) : Aa × Int × Int :=
 if (Ry h.tree p s).2.2 != 0 then (zH,0,(Ry h.tree p s).2.2) else ({ tree := (Ry h.tree p s).1,tasks := h.tasks,next := h.next },(Ry h.tree p s).2.1,0)
theorem AfK {h : Aa} (f : Bi h) (p : Int) {s : ByteArray} (hs : s.size ≤ 1073741824) : Om h p s = some (Qk h p s) := by
 have w := f.snd.wf
 have l1 := w.len
 have l2 := w.tree.len2
 unfold Om Qk
 rw [Ee f,Option.bind_some,if_neg (by simp),AkF w.tree p hs,Option.bind_some]
 cases e : ((Ry h.tree p s).2.2 != 0)
 ·simp only [Bool.false_eq_true,if_false]
  rw [Nk h (by omega) (by omega)]
  rfl
 ·rfl
theorem AjD {h : Aa} (f : Bi h) {p : Int} {s : ByteArray} (e : (Qk h p s).2.2 = 0) : Bi (Qk h p s).1 := by
 unfold Qk at e ⊢
 split at e
 ·rename_i c
  simp at e c
  exact absurd e c
 ·rename_i c
  rw [if_neg c]
  exact Aki f (AdA f.snd.wf.tree rfl (by simpa using c)).1
end Go.Dm

/- Plain theory, part 33: controllers are written, groups are made threaded. -/
namespace Go.Dm
theorem set_at {L : List Ag} (hs : L.Pairwise (fun a b => a.id < b.id)) {i : Nat} (hi : i < L.length) {y : Ag} (e : (L.getD i default).id = y.id) : L.set i y = L.map (Lh y) := by
 apply List.ext_getElem
 ·simp
 ·intro j h1 h2
  rw [List.getElem_set,List.getElem_map]
  have hj : j < L.length := by simpa using h1
  have eg : L.getD i default = L[i] := Pr hi
  rw [eg] at e
  by_cases ej : i = j
  ·subst ej
   rw [if_pos rfl]
   unfold Lh
   rw [if_pos (by simpa using e)]
  ·rw [if_neg ej]
   unfold Lh
   rw [if_neg]
   intro he
   have he' : L[j].id = y.id := by simpa using he
   have hp := List.pairwise_iff_getElem.mp hs
   rcases Nat.lt_or_gt_of_ne ej with h | h
   ·have := hp i j hi hj h
    omega
   ·have := hp j i hj hi h
    omega
theorem all2 {p : Int → Int → Bool} (h : (List.range 32).all (fun a => (List.range 32).all (fun b => p (a : Int) (b : Int))) = true) {a b : Int} (a0 : 0 ≤ a) (a1 : a ≤ 31) (b0 : 0 ≤ b) (b1 : b ≤ 31) : p a b = true := by
 have h1 := List.all_eq_true.mp h a.toNat (by rw [List.mem_range]; omega)
 have h2 := List.all_eq_true.mp h1 b.toNat (by rw [List.mem_range]; omega)
 rw [show ((a.toNat : Nat) : Int) = a by omega,show ((b.toNat : Nat) : Int) = b by omega] at h2
 exact h2
def bitsB (a b : Int) : Bool := (kand .i64 (Ax .i64 a b) 6 == Ax .i64 (kand .i64 a 6) b) && decide (0 ≤ Ax .i64 a b) && decide (Ax .i64 a b ≤ 31) && decide (0 ≤ kor .i64 a b) && decide (kor .i64 a b ≤ 31)
theorem Aje : (List.range 32).all (fun a => (List.range 32).all (fun b => bitsB (a : Int) (b : Int))) = true := by decide +kernel
theorem bits_set : (List.range 34).all (fun a => (decide ((a : Int) - 1 ≥ 0) && (Ax .i64 ((a : Int) - 1) 31 == 0)) == (decide ((a : Int) - 1 ≥ 0) && decide ((a : Int) - 1 ≤ 31))) = true := by decide +kernel
theorem Aja {a b : Int} (a0 : 0 ≤ a) (a1 : a ≤ 31) (b0 : 0 ≤ b) (b1 : b ≤ 31) : 0 ≤ Ax .i64 a b ∧ Ax .i64 a b ≤ 31 := by
 have := all2 (p := bitsB) Aje a0 a1 b0 b1
 simp only [bitsB,Bool.and_eq_true,decide_eq_true_eq] at this
 exact ⟨this.1.1.1.2,this.1.1.2⟩
theorem or_bounds {a b : Int} (a0 : 0 ≤ a) (a1 : a ≤ 31) (b0 : 0 ≤ b) (b1 : b ≤ 31) : 0 ≤ kor .i64 a b ∧ kor .i64 a b ≤ 31 := by
 have := all2 (p := bitsB) Aje a0 a1 b0 b1
 simp only [bitsB,Bool.and_eq_true,decide_eq_true_eq] at this
 exact ⟨this.1.2,this.2⟩
def AdF (n : Int) : Bool := decide (n ≥ 0) && decide (n ≤ 31)
theorem Aef {a : Int} (h0 : -1 ≤ a) (h1 : a ≤ 32) : Rx a = some (AdF a) := by
 have := List.all_eq_true.mp bits_set (a + 1).toNat (by rw [List.mem_range]; omega)
 rw [show (((a + 1).toNat : Nat) : Int) - 1 = a by omega] at this
 unfold Rx AdF
 rw [eq_of_beq this]
def Xp (x : Ag) (a d : Int) : Ag := { id := x.id,parent := x.parent,name := x.name,control := kor .i64 (Ax .i64 x.control d) a,kind := x.kind,owner := x.owner }
def Ls (h : Aa) (id a d : Int) : Aa × Int :=
 if !AdF a || !AdF d || (kand .i64 a d != 0) then (zH,1) else if !Aw h.tree id then (zH,4)
 else if Ax .i64 a (Hq h.tree (As h.tree id)) != 0 then (zH,9)
 else if h.tree.nodes.any (fun x => (x.parent == id) && (kand .i64 x.control d != 0)) then (zH,9)
 else if (kand .i64 (Ax .i64 (Xp (As h.tree id) a d).control (As h.tree id).control) 6 != 0) && ((id != 1) && decide ((((tasksK h id).length : Nat) : Int) > 0)) then (zH,6)
 else (Hm h (Xp (As h.tree id) a d),0)
theorem Ajt {α β : Type} {p : α → Bool} {a b : β} {xs : List α} : (xs.find? p).elim a (fun _ => b) = if xs.any p then b else a := by
 cases h : xs.find? p with
 | none =>
  rw [List.find?_eq_none] at h
  rw [if_neg]
  ·rfl
  ·simpa using h
 | some x =>
  rw [if_pos (List.any_eq_true.mpr ⟨x,List.mem_of_find?_eq_some h,List.find?_some h⟩)]
  rfl
theorem at_node {t : Ae} (w : WfT t) {id : Int} (hg : Aw t id = true) : ∃ i : Nat,i < t.nodes.length ∧ Eb t id = some (i : Int) ∧ t.nodes.getD i default = As t id := by
 have l2 := w.len2
 rcases Mh (fun x : Ag => x.id == id) t.nodes default with ⟨i,h1,h2,h3⟩ | ⟨h1,h2⟩
 ·refine ⟨i,h1,?_,?_⟩
  ·rw [Td t id (by omega),h2]
   rfl
  ·unfold As Fn
   rw [h3]
   rfl
 ·exfalso
  unfold Aw Fn at hg
  rw [h2] at hg
  simp at hg
theorem at_none {t : Ae} (hl : t.nodes.length ≤ 1000000) {id : Int} (hg : Aw t id = false) : Eb t id = some (-1) := by
 rcases Mh (fun x : Ag => x.id == id) t.nodes default with ⟨i,h1,h2,h3⟩ | ⟨h1,h2⟩
 ·exfalso
  unfold Aw Fn at hg
  rw [h3] at hg
  simp at hg
 ·rw [Td t id hl,h1]
  rfl
theorem AgD {h : Aa} (s : Xc h) (id : Int) {a d : Int} (a0 : -1 ≤ a) (a1 : a ≤ 32) (d0 : -1 ≤ d) (d1 : d ≤ 32) : Ri h id a d = some (Ls h id a d) := by
 have w := s.wf
 have l1 := w.len
 have l2 := w.tree.len2
 have hs : Li h = some true := by
  obtain ⟨b,e,hb⟩ := Aax w.raw
  rw [e,hb.mpr s]
 unfold Ri Ls
 rw [hs,Option.bind_some,if_neg (by simp),Aef a0 a1,Option.bind_some,Aef d0 d1,Option.bind_some]
 cases ha : AdF a with
 | false => rfl
 | true =>
 cases hd : AdF d with
 | false => rfl
 | true =>
 simp only [Bool.not_true,Bool.false_eq_true,if_false,Bool.false_or]
 unfold Ji
 cases hk : (kand .i64 a d != 0) with
 | true => rfl
 | false =>
 simp only [Bool.false_eq_true,if_false]
 cases hg : Aw h.tree id with
 | false =>
  rw [at_none (by omega) hg,Option.bind_some]
  rfl
 | true =>
 obtain ⟨i,hi,eAt,eN⟩ := at_node w.tree hg
 have em : Int.toNat (i : Int) = i := by omega
 rw [eAt,Option.bind_some,if_neg (by simp),if_pos (by omega),em,eN,Adi w.tree,Option.bind_some]
 simp only [Bool.not_true,Bool.false_eq_true,if_false]
 cases hav : (Ax .i64 a (Hq h.tree (As h.tree id)) != 0) with
 | true => rfl
 | false =>
 simp only [Bool.false_eq_true,if_false]
 rw [if_pos (by omega)]
 have hJ4 : ∀ b,Jk h a d (i : Int) b = some (if b then (zH,6) else (Hm h (Xp (As h.tree id) a d),0)) := by
  intro b
  unfold Jk
  cases b
  ·rw [if_neg (by simp),Nk h (by omega) (by omega),Option.bind_some,if_pos (by omega),em,if_pos hi,eN]
   simp only [Bool.false_eq_true,if_false]
   unfold Hm setT
   rw [← set_at w.tree.sorted hi (by rw [eN]; rfl)]
   rfl
  ·rfl
 have hD : Sc h id a d (i : Int) () = some (if (kand .i64 (Ax .i64 (Xp (As h.tree id) a d).control (As h.tree id).control) 6 != 0) && ((id != 1) && decide ((((tasksK h id).length : Nat) : Int) > 0)) then (zH,6) else (Hm h (Xp (As h.tree id) a d),0)) := by
  unfold Sc
  rw [em,eN,hJ4]
  simp only [hJ4]
  rw [show kor .i64 (Ax .i64 (As h.tree id).control d) a = (Xp (As h.tree id) a d).control from rfl]
  cases (kand .i64 (Ax .i64 (Xp (As h.tree id) a d).control (As h.tree id).control) 6 != 0)
  ·rfl
  ·cases (id != 1)
   ·rfl
   ·simp only [if_true,Bool.true_and]
    rw [Ss w.sorted (by omega),Option.bind_some]
 rw [Hw (p := fun x => (x.parent == id) && (kand .i64 x.control d != 0)) (f := fun _ => (zH,9)) (fun k x n => rfl) hD,Ajt]
theorem Aio {h : Aa} (w : WfH h) {x : Ag} (hx : x ∈ h.tree.nodes) {y : Ag} (e1 : y.id = x.id) (e2 : y.parent = x.parent) (e3 : y.name = x.name) (v : Sg y) (k : x.id = 1 → y.kind = 0) : WfH (Hm h y) := by
 refine ⟨setT_wf w.tree hx e1 e2 e3 v k,w.len,w.n1,w.n2,w.sorted,w.lt,?_⟩
 intro t ht
 have := w.val t ht
 refine ⟨this.pos,?_,this.u1,this.u2,this.ldr⟩
 have hh := this.grp
 rw [hasN_iff] at hh ⊢
 obtain ⟨z,hz,ez⟩ := hh
 refine ⟨Lh y z,List.mem_map_of_mem hz,?_⟩
 unfold Lh
 split
 ·rename_i c
  have : z.id = y.id := by simpa using c
  omega
 ·exact ez
theorem Aiz {h : Aa} (s : Xc h) {id a d : Int} (e : (Ls h id a d).2 = 0) : WfH (Ls h id a d).1 ∧ Aw h.tree id = true ∧ Ls h id a d = (Hm h (Xp (As h.tree id) a d),0) := by
 unfold Ls at e ⊢
 split at e
 ·simp at e
 rename_i c1
 rw [if_neg c1]
 split at e
 ·simp at e
 rename_i c2
 rw [if_neg c2]
 split at e
 ·simp at e
 rename_i c3
 rw [if_neg c3]
 split at e
 ·simp at e
 rename_i c4
 rw [if_neg c4]
 split at e
 ·simp at e
 rename_i c5
 rw [if_neg c5]
 have hg : Aw h.tree id = true := by simpa using c2
 refine ⟨?_,hg,rfl⟩
 obtain ⟨hid,hmem⟩ := Nc hg
 have hb := (s.wf.tree.p.val _ hmem)
 simp only [AdF,Bool.or_eq_true,Bool.not_eq_true',not_or,Bool.not_eq_false,Bool.and_eq_true,decide_eq_true_eq] at c1
 have ha := c1.1.1
 have hd := c1.1.2
 have hb1 := Aja hb.c1 hb.c2 hd.1 hd.2
 have hb2 := or_bounds hb1.1 hb1.2 ha.1 ha.2
 exact Aio s.wf hmem rfl rfl rfl ⟨hb.kind,hb2.1,hb2.2,hb.o1,hb.o2⟩ (fun e1 => (AcB s.wf.tree hmem e1).2)
noncomputable def Wd (h : Aa) (id a d : Int) : Aa × Int :=
 open Classical in
 if (Ls h id a d).2 != 0 then (zH,(Ls h id a d).2) else if Bi (Ls h id a d).1 then ((Ls h id a d).1,0) else (zH,10)
theorem AfN {h : Aa} (f : Bi h) (id : Int) {a d : Int} (a0 : -1 ≤ a) (a1 : a ≤ 32) (d0 : -1 ≤ d) (d1 : d ≤ 32) : Oj h id a d = some (Wd h id a d) := by
 unfold Oj Wd Be
 rw [Ee f,Option.bind_some,if_neg (by simp),AgD f.snd id a0 a1 d0 d1,Option.bind_some]
 cases e : ((Ls h id a d).2 != 0) with
 | true => rfl
 | false =>
  simp only [Bool.false_eq_true,if_false]
  have w := (Aiz f.snd (by simpa using e)).1
  by_cases g : Bi (Ls h id a d).1
  ·rw [Ee g,Option.bind_some,if_pos g]
   rfl
  ·rw [Acm w.raw g,Option.bind_some,if_neg g]
   rfl
theorem AkG {h : Aa} (f : Bi h) {id a d : Int} (e : (Wd h id a d).2 = 0) : Bi (Wd h id a d).1 ∧ Aw h.tree id = true ∧ Wd h id a d = (Hm h (Xp (As h.tree id) a d),0) ∧ (Ls h id a d).2 = 0 := by
 unfold Wd at e ⊢
 cases c : ((Ls h id a d).2 != 0) with
 | true =>
  rw [c,if_pos rfl] at e
  simp at c
  exact absurd e c
 | false =>
  rw [c] at e
  simp only [Bool.false_eq_true,if_false] at e ⊢
  have c0 : (Ls h id a d).2 = 0 := by simpa using c
  have hw := Aiz f.snd c0
  by_cases g : Bi (Ls h id a d).1
  ·rw [if_pos g]
   refine ⟨g,hw.2.1,?_,c0⟩
   rw [hw.2.2]
  ·rw [if_neg g] at e
   simp at e
def Uj (x : Ag) : Ag := { id := x.id,parent := x.parent,name := x.name,control := x.control,kind := 1,owner := x.owner }
noncomputable def Sx (h : Aa) (id : Int) : Aa × Int :=
 open Classical in
 if !Aw h.tree id then (zH,4) else if (id == 1) || ((As h.tree id).kind == 1) then (zH,9)
 else if (Db h.tree (As h.tree id).parent == 3) || (((As h.tree id).parent != 1) && (kand .i64 (As h.tree (As h.tree id).parent).control 6 != 0)) then (zH,10)
 else if kand .i64 (As h.tree id).control 6 != 0 then (zH,9)
 else if decide ((((tasksK h id).length : Nat) : Int) > 0) then (zH,6)
 else if Bi (Hm h (Uj (As h.tree id))) then (Hm h (Uj (As h.tree id)),0) else (zH,6)
theorem Aep {h : Aa} (f : Bi h) (id : Int) : My h id = some (Sx h id) := by
 have w := f.snd.wf
 have l1 := w.len
 have l2 := w.tree.len2
 unfold My Sx Be
 rw [Ee f,Option.bind_some,if_neg (by simp)]
 cases hg : Aw h.tree id with
 | false =>
  rw [at_none (by omega) hg,Option.bind_some]
  rfl
 | true =>
 obtain ⟨hid,hmem⟩ := Nc hg
 obtain ⟨i,hi,eAt,eN⟩ := at_node w.tree hg
 have em : Int.toNat (i : Int) = i := by omega
 rw [eAt,Option.bind_some,if_neg (by simp),if_pos (by omega),em,eN,AaH w.tree,Option.bind_some]
 simp only [Bool.not_true,Bool.false_eq_true,if_false]
 cases hc : ((id == 1) || ((As h.tree id).kind == 1)) with
 | true => rfl
 | false =>
 simp only [Bool.false_eq_true,if_false]
 have h1 : id ≠ 1 := by
  simp at hc
  exact hc.1
 rw [Ahi w.tree,Option.bind_some]
 have hw : WfH (Hm h (Uj (As h.tree id))) := by
  have hb := (w.tree.p.val _ hmem)
  exact Aio w hmem rfl rfl rfl ⟨.inr rfl,hb.c1,hb.c2,hb.o1,hb.o2⟩ (fun e1 => absurd e1 (by omega))
 have hset : h.tree.nodes.set i (Uj (As h.tree id)) = h.tree.nodes.map (Lh (Uj (As h.tree id))) := set_at w.tree.sorted hi (by rw [eN]; rfl)
 have hwith : ({ tree := ({ nodes := (h.tree.nodes.set i (Uj (As h.tree id))),next := h.tree.next } : Ae),tasks := h.tasks,next := h.next } : Aa) = Hm h (Uj (As h.tree id)) := by
  rw [hset]
  rfl
 have hJ2 : ∀ b,Iq (i : Int) h b = some (if b then (zH,6) else (Hm h (Uj (As h.tree id)),0)) := by
  intro b
  unfold Iq Be
  rw [em,eN]
  cases b
  ·simp only [Bool.false_eq_true,if_false]
   rw [← hwith]
   rfl
  ·rfl
 have hJ1 : ∀ b,Gk h id (i : Int) b = some (open Classical in if b then (zH,10) else if kand .i64 (As h.tree id).control 6 != 0 then (zH,9) else if decide ((((tasksK h id).length : Nat) : Int) > 0) then (zH,6) else if Bi (Hm h (Uj (As h.tree id))) then (Hm h (Uj (As h.tree id)),0) else (zH,6)) := by
  intro b
  unfold Gk Be
  cases b
  ·rw [em,eN]
   simp only [Bool.false_eq_true,if_false]
   cases (kand .i64 (As h.tree id).control 6 != 0) with
   | true => rfl
   | false =>
    simp only [Bool.false_eq_true,if_false]
    rw [Nk h (by omega) (by omega),Option.bind_some,if_pos (by omega),if_pos hi,Ss w.sorted (by omega),Option.bind_some,hJ2]
    rw [eN,show ({ id := (As h.tree id).id,parent := (As h.tree id).parent,name := (As h.tree id).name,control := (As h.tree id).control,kind := 1,owner := (As h.tree id).owner } : Ag) = Uj (As h.tree id) from rfl,hwith]
    split
    ·rfl
    ·by_cases g : Bi (Hm h (Uj (As h.tree id)))
     ·rw [Ee g,Option.bind_some,if_pos g,hJ2]
      rfl
     ·rw [Acm hw.raw g,Option.bind_some,if_neg g,hJ2]
      rfl
  ·rfl
 simp only [hJ1]
 cases (Db h.tree (As h.tree id).parent == 3) with
 | true => rfl
 | false =>
  simp only [Bool.false_eq_true,if_false,Bool.false_or]
  cases ((As h.tree id).parent != 1) with
  | true => rfl
  | false => rfl
theorem Akj {h : Aa} {id : Int} (e : (Sx h id).2 = 0) : Bi (Sx h id).1 ∧ Aw h.tree id = true ∧ Sx h id = (Hm h (Uj (As h.tree id)),0) := by
 unfold Sx at e ⊢
 split at e
 ·simp at e
 rename_i c1
 rw [if_neg c1]
 split at e
 ·simp at e
 rename_i c2
 rw [if_neg c2]
 split at e
 ·simp at e
 rename_i c3
 rw [if_neg c3]
 split at e
 ·simp at e
 rename_i c4
 rw [if_neg c4]
 split at e
 ·simp at e
 rename_i c5
 rw [if_neg c5]
 split at e
 ·rename_i c6
  rw [if_pos c6]
  exact ⟨c6,by simpa using c1,rfl⟩
 ·simp at e
end Go.Dm

/- Plain theory, part 34: names of made groups are short. -/
namespace Go.Dm
end Go.Dm

/- Plain theory, part 35: rights of users. -/
namespace Go.Dm
theorem AjX : Wh = some true := by kernel_rfl
def Et (n : Int) : Bool := decide (n ≥ 0) && decide (n ≤ 1048576)
def Rz (t : Ae) (u a : Int) : Bool := (As t a).owner == u
def Dy (t : Ae) (u id : Int) : Bool := Et u && (decide (0 < (upT t id).length) && (u == 0 || ((upT t id).drop 1).any (Rz t u)))
def Cj (t : Ae) (u id : Int) : Bool := Dy t u id || (Et u && (u != 0 && (upT t id).any (Rz t u)))
theorem AeR {t : Ae} (id : Int) : (upT t id).length ≤ t.nodes.length := by
 have := Qx t.nodes.reverse id
 simpa [upT] using this
theorem Aci {t : Ae} (w : WfT t) (u : Int) {l : List Int} (hl : l.length ≤ 1000000) : Nv t u l = some (l.any (Rz t u)) := by
 have l2 := w.len2
 unfold Nv Dn Ed
 rw [if_pos (by omega),Zh (p := Rz t u) (fun k x n => by unfold Ge Se; rw [AaH w,Option.bind_some,Option.bind_some]; rfl) rfl,Option.bind_some,Option.bind_some]
 congr 1
 rcases Mh (Rz t u) l 0 with ⟨i,h1,h2,h3⟩ | ⟨h1,h2⟩
 ·rw [h2]
  have : l.any (Rz t u) = true := List.any_eq_true.mpr ⟨_,List.mem_of_find?_eq_some h3,List.find?_some h3⟩
  rw [this]
  simp
 ·rw [h1]
  rw [List.find?_eq_none] at h2
  rw [List.any_eq_false.mpr h2]
  rfl
theorem Acl {t : Ae} (w : WfT t) (u id : Int) : Ll t u id = some (Dy t u id) := by
 have l2 := w.len2
 have hul := AeR (t := t) id
 unfold Ll Dy Dd
 rw [Gr w,Option.bind_some,Option.bind_some]
 rw [show (decide (u ≥ 0) && decide (u ≤ 1048576)) = Et u from rfl]
 cases Et u with
 | false => rfl
 | true =>
  rw [if_pos rfl]
  by_cases h : 0 < (upT t id).length
  ·rw [if_pos (by simpa using h)]
   cases hu : (u == 0) with
   | true =>
    simp [Hn]
    exact h
   | false =>
    rw [if_neg (by simp),if_pos (by omega)]
    have : (((upT t id).drop 1).take (Cc (upT t id).length 1)) = (upT t id).drop 1 := by
     apply List.take_of_length_le
     have : Cc (upT t id).length 1 = (upT t id).length - 1 := rfl
     rw [this]
     simp
    rw [this,Aci w u (by simp; omega),Option.bind_some]
    unfold Hn
    congr 1
    have hd : decide (0 < (upT t id).length) = true := by simpa using h
    rw [hd]
    rfl
  ·rw [if_neg (by simpa using h)]
   have hd : decide (0 < (upT t id).length) = false := by simpa using h
   rw [hd]
   rfl
theorem Vz {t : Ae} (w : WfT t) (u id : Int) : Ip t u id = some (Cj t u id) := by
 have l2 := w.len2
 have hul := AeR (t := t) id
 unfold Ip Cj Dd Ic
 rw [Acl w,Option.bind_some]
 cases Dy t u id with
 | true => rfl
 | false =>
  rw [if_neg (by simp),Option.bind_some]
  rw [show (decide (u ≥ 0) && decide (u ≤ 1048576)) = Et u from rfl]
  cases Et u with
  | false => rfl
  | true =>
   cases hu : (u != 0) with
   | false => rfl
   | true =>
    rw [if_pos rfl,if_pos rfl,Gr w,Option.bind_some,Aci w u (by omega),Option.bind_some]
    rfl
theorem Agd {t : Ae} (w : WfT t) (u id : Int) : Wg t u id = some (Dy t u id) := by
 apply Ok.eq
 have l2 := w.len2
 have hul := AeR (t := t) id
 unfold Wg
 refine Ok.step (Qy w id) ?_
 rw [ancN_up]
 have hJ : Rw t u (upT t id) true = some false := rfl
 refine Ok.ite (fun c => Ok.of_eq hJ ?_) fun c => ?_
 ·have : (upT t id).length = 0 := by
   have : ((upT t id).length : Int) = 0 := by simpa using c
   omega
  unfold Dy
  rw [this]
  simp
 have hpos : 0 < (upT t id).length := by
  have : ¬ ((upT t id).length : Int) = 0 := by simpa using c
  omega
 have hd : decide (0 < (upT t id).length) = true := by simpa using hpos
 unfold Wf
 refine Ok.step rfl ?_
 rw [show (decide (u ≥ 0) && decide (u ≤ 1048576)) = Et u from rfl]
 cases hu : Et u with
 | false =>
  refine Ok.of_eq hJ ?_
  unfold Dy
  rw [hu]
  rfl
 | true =>
  unfold Rw
  rw [if_neg (by simp)]
  refine Ok.ite (fun e => Ok.ret ?_) fun e => ?_
  ·unfold Dy
   rw [hu,hd,e]
   rfl
  refine Ok.guard (by omega) ?_
  have hfull : Dy t u id = ((upT t id).drop 1).any (Rz t u) := by
   unfold Dy
   rw [hu,hd,e]
   rfl
  rw [hfull]
  have hm : Int.toNat (((upT t id).length : Int) - 1) = (upT t id).length - 1 := by omega
  rw [hm]
  refine Ok.for (fun j _ => ∀ a ∈ ((upT t id).drop 1).take j,Rz t u a = false) (by simp) ?_ ?_
  ·intro j _ n hj hI hn
   unfold AcG
   have ej : Int.toNat (1 + (j : Int)) = j + 1 := by omega
   have hj1 : j + 1 < (upT t id).length := by omega
   refine Ok.guard (by omega) ?_
   rw [ej]
   refine Ok.guard hj1 ?_
   have eg : (upT t id).getD (j + 1) 0 = (upT t id)[j + 1] := Pr hj1
   rw [eg]
   refine Ok.step (Ua w _) ?_
   refine Ok.ite (fun c => Ok.ret ?_) fun c => hn () ?_
   ·symm
    rw [List.any_eq_true]
    refine ⟨(upT t id)[j + 1],?_,c⟩
    have : ((upT t id).drop 1)[j]'(by simp; omega) = (upT t id)[j + 1] := by simp [Nat.add_comm]
    rw [← this]
    exact List.getElem_mem _
   ·intro a ha
    rw [List.take_add_one] at ha
    rcases List.mem_append.mp ha with ha | ha
    ·exact hI a ha
    ·have : ((upT t id).drop 1)[j]? = some (upT t id)[j + 1] := by
      rw [List.getElem?_drop,Nat.add_comm,List.getElem?_eq_getElem hj1]
     rw [this] at ha
     simp at ha
     subst ha
     exact c
  ·intro _ hI
   refine Ok.ret ?_
   symm
   rw [List.any_eq_false]
   intro a ha
   have := hI a (by rw [List.take_of_length_le (by simp)]; exact ha)
   simp [this]
theorem Aiv {t : Ae} (w : WfT t) (u id : Int) : Cj t u id = (Aw t id && (Dy t u id || (Et u && (u != 0 && ((As t id).owner == u))))) := by
 cases hg : Aw t id with
 | false =>
  have := up_not hg
  unfold Cj Dy
  rw [this]
  simp
 | true =>
  have hup := AhR w hg
  have hd : (upT t id).drop 1 = upT t (As t id).parent := by rw [hup]; rfl
  have hl : decide (0 < (upT t id).length) = true := by rw [hup]; simp
  have ha : (upT t id).any (Rz t u) = (((As t id).owner == u) || (upT t (As t id).parent).any (Rz t u)) := by rw [hup]; rfl
  unfold Cj Dy
  rw [hd,hl,ha]
  cases Et u <;> cases hu : (u == 0) <;> cases ((As t id).owner == u) <;> cases ((upT t (As t id).parent).any (Rz t u)) <;> simp_all
theorem AjB {t : Ae} (w : WfT t) (u id : Int) : Xb t u id = some (Cj t u id) := by
 unfold Xb Wf Kp
 rw [Ua w,Option.bind_some,Aiv w]
 cases Aw t id with
 | false => rfl
 | true =>
  rw [if_pos rfl,Agd w,Option.bind_some]
  cases Dy t u id with
  | true => rfl
  | false =>
   rw [if_neg (by simp),Option.bind_some]
   rw [show (decide (u ≥ 0) && decide (u ≤ 1048576)) = Et u from rfl]
   cases Et u with
   | false => rfl
   | true => cases (u != 0) <;> rfl
def comN (t : Ae) (a b : Int) : Int := ((upT t a).find? (fun x => (upT t b).contains x)).getD 0
theorem Ahc {t : Ae} (w : WfT t) (a b : Int) : ∃ q,Rj t a b = some (comN t a b,q) := by
 have l2 := w.len2
 have h1 := AeR (t := t) a
 have h2 := AeR (t := t) b
 unfold Rj comN
 rw [Gr w,Option.bind_some,Gr w,Option.bind_some,if_pos (by omega)]
 rw [Hw (p := fun x => (upT t b).contains x) (f := fun x => (x,true)) (z := (0,false)) ?_ rfl]
 ·cases (upT t a).find? (fun x => (upT t b).contains x) with
  | none => exact ⟨false,rfl⟩
  | some x => exact ⟨true,rfl⟩
 ·intro k x n
  unfold Xm
  rw [Akt _ _ (by omega),Option.bind_some]
end Go.Dm

/- Plain theory, part 36: acts of users. -/
namespace Go.Dm
theorem Aif (l : List Int) (hl : l.length ≤ 1000000) : Zw l l = some true := by
 unfold Zw
 rw [if_neg (by simp),if_pos (by omega)]
 apply Ok.eq
 refine Ok.range (fun _ _ => True) trivial ?_ fun _ _ => Ok.ret rfl
 intro pre x post s n he _ hn
 unfold AcL
 have hi : pre.length < l.length := by
  rw [he]
  simp
 rw [if_pos hi]
 have : l.getD pre.length 0 = x := by
  rw [he]
  exact Abj
 rw [this,if_neg (by simp)]
 exact hn () trivial
def Wm (h : Aa) (u id : Int) (right : Bool) : Int := if !Et u then 1 else if !Aw h.tree id then 4 else if !right then 8 else 0
def actC (h : Aa) (u p : Int) (s : ByteArray) : Aa × Int × Int := if Wm h u p (Cj h.tree u p) != 0 then (zH,0,Wm h u p (Cj h.tree u p)) else Qk h p s
def actR (h : Aa) (u id : Int) : Aa × Int := if Wm h u id (Dy h.tree u id) != 0 then (zH,Wm h u id (Dy h.tree u id)) else Mt h id
noncomputable def actW (h : Aa) (u id a d : Int) : Aa × Int := if Wm h u id (Cj h.tree u id) != 0 then (zH,Wm h u id (Cj h.tree u id)) else Wd h id a d
noncomputable def actV (h : Aa) (u id : Int) : Aa × Int := if Wm h u id (Dy h.tree u id) != 0 then (zH,Wm h u id (Dy h.tree u id)) else Sx h id
def Ut (h : Aa) (u g k : Int) : Bool := (u == 0 || ((Bg h.tasks k).getD zK).user == u) && (Cj h.tree u g && Cj h.tree u (comN h.tree g ((Bg h.tasks k).getD zK).group))
def actM (h : Aa) (u k g : Int) : Aa × Int :=
 if !Et u then (zH,1) else if !((Bg h.tasks k).isSome && (((Bg h.tasks k).getD zK).process == k) && Aw h.tree g) then (zH,4)
 else if !(Eh h k).all (Ut h u g) then (zH,8) else attK h k g
def actT (h : Aa) (u k g : Int) : Aa × Int :=
 if !Et u then (zH,1) else if !((Bg h.tasks k).isSome && Aw h.tree g) then (zH,4) else if !Ut h u g k then (zH,8) else Wk h k g
theorem AfS {h : Aa} (f : Bi h) (u id : Int) : Ds h u id = some (Wm h u id (Cj h.tree u id)) := by
 have w := f.snd.wf
 have l2 := w.tree.len2
 unfold Ds Wm Dd Er
 rw [Option.bind_some,show (decide (u ≥ 0) && decide (u ≤ 1048576)) = Et u from rfl,Ee f]
 cases Et u with
 | false => rfl
 | true =>
  obtain ⟨q,eq,hq,_⟩ := Lj h.tree id (by omega)
  simp only [Bool.not_true,Bool.false_eq_true,if_false,Option.bind_some,eq,hq,Vz w.tree]
  cases Aw h.tree id <;> cases Cj h.tree u id <;> rfl
theorem AgG {h : Aa} (f : Bi h) (u id : Int) : Ea h u id = some (Wm h u id (Dy h.tree u id)) := by
 have w := f.snd.wf
 have l2 := w.tree.len2
 unfold Ea Wm Dd Eu
 rw [Option.bind_some,show (decide (u ≥ 0) && decide (u ≤ 1048576)) = Et u from rfl,Ee f]
 cases Et u with
 | false => rfl
 | true =>
  obtain ⟨q,eq,hq,_⟩ := Lj h.tree id (by omega)
  simp only [Bool.not_true,Bool.false_eq_true,if_false,Option.bind_some,eq,hq,Acl w.tree]
  cases Aw h.tree id <;> cases Dy h.tree u id <;> rfl
theorem AfG {h : Aa} (f : Bi h) (u p : Int) {s : ByteArray} (hs : s.size ≤ 1073741824) : La h u p s = some (actC h u p s) := by
 unfold La actC
 rw [AfS f,Option.bind_some,AfK f p hs]
 split <;> rfl
theorem AfI {h : Aa} (f : Bi h) (u id : Int) : Oe h u id = some (actR h u id) := by
 unfold Oe actR Ce
 rw [AgG f,Option.bind_some,Ahw f.snd.wf]
 split <;> rfl
theorem Aae {h : Aa} (f : Bi h) (u id : Int) {a d : Int} (a0 : -1 ≤ a) (a1 : a ≤ 32) (d0 : -1 ≤ d) (d1 : d ≤ 32) : Ka h u id a d = some (actW h u id a d) := by
 unfold Ka actW Ce
 rw [AfS f,Option.bind_some,AfN f id a0 a1 d0 d1]
 split <;> rfl
theorem AeJ {h : Aa} (f : Bi h) (u id : Int) : Mx h u id = some (actV h u id) := by
 unfold Mx actV Ce
 rw [AgG f,Option.bind_some,Aep f]
 split <;> rfl
theorem moves_t {h : Aa} (w : WfH h) (u g : Int) {ks : List Int} (hne : ks ≠ []) (hl : ks.length ≤ 1000000) : Mk h u g ks = some (if !Aw h.tree g then 4 else if !ks.all (Ut h u g) then 8 else 0) := by
 have l2 := w.tree.len2
 unfold Mk
 obtain ⟨q,eq,hq,_⟩ := Lj h.tree g (by omega)
 rw [eq,Option.bind_some,hq]
 cases Aw h.tree g with
 | false => rfl
 | true =>
 simp only [Bool.not_true,Bool.false_eq_true,if_false]
 rw [Vz w.tree,Option.bind_some]
 cases he : Cj h.tree u g with
 | false =>
  obtain ⟨k,r,rfl⟩ := List.exists_cons_of_ne_nil hne
  simp [Ut,he]
 | true =>
 simp only [Bool.not_true,Bool.false_eq_true,if_false]
 rw [if_pos (by omega)]
 rw [Hw (p := fun k => !Ut h u g k) (f := fun _ => (8 : Int)) (z := (0 : Int)) ?_ rfl,Ajt]
 ·congr 1
  have : ks.any (fun k => !Ut h u g k) = !ks.all (Ut h u g) := by
   rw [List.all_eq_not_any_not,Bool.not_not]
  rw [this]
 ·intro _ k n
  unfold Wa Kc
  obtain ⟨q,e⟩ := Ahc w.tree g ((Bg h.tasks k).getD zK).group
  rw [findC w,Option.bind_some,e,Option.bind_some,Vz w.tree,Option.bind_some]
  unfold Ut
  rw [he]
  cases hu : (u == 0) with
  | true =>
   have : (u != 0) = false := by simpa [bne] using hu
   rw [this]
   cases Cj h.tree u (comN h.tree g ((Bg h.tasks k).getD zK).group) <;> rfl
  | false =>
   have : (u != 0) = true := by simpa [bne] using hu
   rw [this]
   cases hus : (((Bg h.tasks k).getD zK).user == u) with
   | false =>
    have : (((Bg h.tasks k).getD zK).user != u) = true := by simpa [bne] using hus
    rw [this]
    rfl
   | true =>
    have : (((Bg h.tasks k).getD zK).user != u) = false := by simpa [bne] using hus
    rw [this]
    cases Cj h.tree u (comN h.tree g ((Bg h.tasks k).getD zK).group) <;> rfl
theorem AkC {h : Aa} {k : Int} {x : Am} (hx : Bg h.tasks k = some x) (hp : x.process = k) : Eh h k ≠ [] := by
 intro e
 have hm := (Mg hx).1
 unfold Eh at e
 rw [List.map_eq_nil_iff,List.filter_eq_nil_iff] at e
 exact e x hm (by simpa using hp)
theorem Aka (h : Aa) (k : Int) : (Eh h k).length ≤ h.tasks.length := by
 unfold Eh
 rw [List.length_map]
 exact List.length_filter_le _ _
theorem Ahk {h : Aa} (f : Bi h) (u k g : Int) : Lk h u k g = some (actM h u k g) := by
 have w := f.snd.wf
 have l1 := w.len
 have l2 := w.tree.len2
 unfold Lk actM Dd Pc Ce
 rw [Option.bind_some,show (decide (u ≥ 0) && decide (u ≤ 1048576)) = Et u from rfl,Ee f]
 cases Et u with
 | false => rfl
 | true =>
 simp only [Bool.not_true,Bool.false_eq_true,if_false,Option.bind_some]
 rw [findC w,Option.bind_some]
 cases hk : Bg h.tasks k with
 | none => rfl
 | some x =>
 simp only [Option.isSome_some,Option.getD_some,Bool.not_true,Bool.false_or,Bool.true_and]
 cases hp : (x.process == k) with
 | false =>
  have : (x.process != k) = true := by simpa [bne] using hp
  rw [this]
  rfl
 | true =>
  have : (x.process != k) = false := by simpa [bne] using hp
  have htl := Aka h k
  rw [this,if_neg (by simp),AhO w.sorted (by omega),Option.bind_some,moves_t w u g (AkC hk (by simpa using hp)) (by omega),Option.bind_some,AfJ f]
  cases Aw h.tree g with
  | false => rfl
  | true => cases (Eh h k).all (Ut h u g) <;> rfl
theorem AcV {h : Aa} (f : Bi h) (u k g : Int) : Jv h u k g = some (actT h u k g) := by
 have w := f.snd.wf
 have l1 := w.len
 have l2 := w.tree.len2
 unfold Jv actT Dd Ik Ce
 rw [Option.bind_some,show (decide (u ≥ 0) && decide (u ≤ 1048576)) = Et u from rfl,Ee f]
 cases Et u with
 | false => rfl
 | true =>
 simp only [Bool.not_true,Bool.false_eq_true,if_false,Option.bind_some]
 have hat : ∃ i : Int,Ue h k = some i ∧ decide (i < 0) = !(Bg h.tasks k).isSome := by
  rw [AaO h k (by omega)]
  rcases Mh (fun x : Am => x.id == k) h.tasks default with ⟨i,h1,h2,h3⟩ | ⟨h1,h2⟩
  ·refine ⟨(i : Int),by rw [h2]; rfl,?_⟩
   unfold Bg
   rw [h3]
   simp
  ·refine ⟨-1,by rw [h1]; rfl,?_⟩
   unfold Bg
   rw [h2]
   rfl
 obtain ⟨i,e,hi⟩ := hat
 rw [e,Option.bind_some,hi]
 cases (Bg h.tasks k).isSome with
 | false => rfl
 | true =>
  rw [if_neg (by simp),moves_t w u g (by simp) (by simp),Option.bind_some,AbQ f]
  have : [k].all (Ut h u g) = Ut h u g k := by simp
  rw [this]
  cases Aw h.tree g with
  | false => rfl
  | true => cases Ut h u g k <;> rfl
end Go.Dm

/- Plain theory, part 37: rights grow downward. -/
namespace Go.Dm
theorem enter_any {t : Ae} {u : Int} (hu : u ≠ 0) (id : Int) : Cj t u id = (Et u && (upT t id).any (Rz t u)) := by
 have h0 : (u == 0) = false := by simpa using hu
 have h1 : (u != 0) = true := by simpa using hu
 unfold Cj Dy
 rw [h0,h1]
 cases Et u with
 | false => rfl
 | true =>
  simp only [Bool.true_and,Bool.false_or]
  cases upT t id with
  | nil => rfl
  | cons a r =>
   simp only [List.drop_succ_cons,List.drop_zero,List.any_cons,List.length_cons]
   cases r.any (Rz t u) <;> simp
theorem Ait {t : Ae} {u id : Int} (w : WfT t) (h : Cj t u id = true) : Aw t id = true := by
 rw [Aiv w] at h
 simp only [Bool.and_eq_true] at h
 exact h.1
theorem AkR {t : Ae} (w : WfT t) {u : Int} (hu : u ≠ 0) {a b : Int} (h : Cj t u a = true) (hab : a ∈ upT t b) : Cj t u b = true := by
 rw [enter_any hu] at h ⊢
 simp only [Bool.and_eq_true] at h ⊢
 refine ⟨h.1,?_⟩
 obtain ⟨y,hy,rfl⟩ := Yr hab
 obtain ⟨c,hc,e⟩ := List.any_eq_true.mp h.2
 exact List.any_eq_true.mpr ⟨c,up_trans w hc y hy hab,e⟩
theorem com_mem {t : Ae} (w : WfT t) {u g b : Int} (h : Cj t u (comN t g b) = true) : comN t g b ∈ upT t g ∧ comN t g b ∈ upT t b := by
 unfold comN at h ⊢
 cases e : (upT t g).find? (fun x => (upT t b).contains x) with
 | none =>
  rw [e] at h
  have := Ait w h
  rw [Option.getD_none,Ajv w] at this
  simp at this
 | some c =>
  have h1 := List.find?_some e
  simp only [Option.getD_some]
  exact ⟨List.mem_of_find?_eq_some e,by simpa using h1⟩
theorem Ain {h : Aa} (w : WfH h) {u g k : Int} (hu : u ≠ 0) (hm : Ut h u g k = true) : ((Bg h.tasks k).getD zK).user = u ∧ Cj h.tree u g = true ∧ Cj h.tree u ((Bg h.tasks k).getD zK).group = true := by
 unfold Ut at hm
 simp only [Bool.and_eq_true,Bool.or_eq_true,beq_iff_eq] at hm
 obtain ⟨h1,h2,h3⟩ := hm
 refine ⟨?_,h2,AkR w.tree hu h3 (com_mem w.tree h3).2⟩
 rcases h1 with h1 | h1
 ·exact absurd h1 hu
 ·exact h1
theorem actM_ok {h : Aa} {u k g : Int} (e : (actM h u k g).2 = 0) : Et u = true ∧ (Bg h.tasks k).isSome = true ∧ ((Bg h.tasks k).getD zK).process = k ∧ Aw h.tree g = true ∧ (Eh h k).all (Ut h u g) = true ∧ actM h u k g = attK h k g := by
 unfold actM at e ⊢
 split at e
 ·simp at e
 rename_i c1
 rw [if_neg c1]
 split at e
 ·simp at e
 rename_i c2
 rw [if_neg c2]
 split at e
 ·simp at e
 rename_i c3
 rw [if_neg c3]
 simp only [Bool.not_eq_true',Bool.not_eq_false,Bool.and_eq_true,beq_iff_eq] at c1 c2 c3
 exact ⟨c1,c2.1.1,c2.1.2,c2.2,c3,rfl⟩
theorem actT_ok {h : Aa} {u k g : Int} (e : (actT h u k g).2 = 0) : Et u = true ∧ (Bg h.tasks k).isSome = true ∧ Aw h.tree g = true ∧ Ut h u g k = true ∧ actT h u k g = Wk h k g := by
 unfold actT at e ⊢
 split at e
 ·simp at e
 rename_i c1
 rw [if_neg c1]
 split at e
 ·simp at e
 rename_i c2
 rw [if_neg c2]
 split at e
 ·simp at e
 rename_i c3
 rw [if_neg c3]
 simp only [Bool.not_eq_true',Bool.not_eq_false,Bool.and_eq_true] at c1 c2 c3
 exact ⟨c1,c2.1,c2.2,c3,rfl⟩
theorem AfC {h : Aa} {u id : Int} {b : Bool} (e : Wm h u id b = 0) : Et u = true ∧ Aw h.tree id = true ∧ b = true := by
 unfold Wm at e
 cases hu : Et u with
 | false => simp [hu] at e
 | true =>
  cases hg : Aw h.tree id with
  | false => simp [hu,hg] at e
  | true =>
   cases b with
   | false => simp [hu,hg] at e
   | true => exact ⟨rfl,rfl,rfl⟩
theorem actC_ok {h : Aa} {u p : Int} {s : ByteArray} (e : (actC h u p s).2.2 = 0) : Et u = true ∧ Aw h.tree p = true ∧ Cj h.tree u p = true ∧ actC h u p s = Qk h p s := by
 unfold actC at e ⊢
 split at e
 ·rename_i c
  simp at c
  exact absurd e c
 ·rename_i c
  rw [if_neg c]
  have := AfC (by simpa using c)
  exact ⟨this.1,this.2.1,this.2.2,rfl⟩
theorem actR_ok {h : Aa} {u id : Int} (e : (actR h u id).2 = 0) : Et u = true ∧ Aw h.tree id = true ∧ Dy h.tree u id = true ∧ actR h u id = Mt h id := by
 unfold actR at e ⊢
 split at e
 ·rename_i c
  simp at c
  exact absurd e c
 ·rename_i c
  rw [if_neg c]
  have := AfC (by simpa using c)
  exact ⟨this.1,this.2.1,this.2.2,rfl⟩
theorem actW_ok {h : Aa} {u id a d : Int} (e : (actW h u id a d).2 = 0) : Et u = true ∧ Aw h.tree id = true ∧ Cj h.tree u id = true ∧ actW h u id a d = Wd h id a d := by
 unfold actW at e ⊢
 split at e
 ·rename_i c
  simp at c
  exact absurd e c
 ·rename_i c
  rw [if_neg c]
  have := AfC (by simpa using c)
  exact ⟨this.1,this.2.1,this.2.2,rfl⟩
theorem actV_ok {h : Aa} {u id : Int} (e : (actV h u id).2 = 0) : Et u = true ∧ Aw h.tree id = true ∧ Dy h.tree u id = true ∧ actV h u id = Sx h id := by
 unfold actV at e ⊢
 split at e
 ·rename_i c
  simp at c
  exact absurd e c
 ·rename_i c
  rw [if_neg c]
  have := AfC (by simpa using c)
  exact ⟨this.1,this.2.1,this.2.2,rfl⟩
end Go.Dm

/- Plain theory, part 38: what acts of a user leave alone. -/
namespace Go.Dm
theorem AgQ {h : Aa} {id : Int} (e : (Mt h id).2 = 0) : Aw h.tree id = true ∧ id ≠ 1 ∧ (∀ x ∈ h.tree.nodes,x.parent ≠ id) ∧ tasksK h id = [] ∧ Mt h id = ({ tree := { nodes := h.tree.nodes.filter (fun x => x.id != id),next := h.tree.next },tasks := h.tasks,next := h.next },0) := by
 unfold Mt at e ⊢
 split at e
 ·rename_i c
  simp at c
  exact absurd e c
 rename_i c
 rw [if_neg c]
 split at e
 ·simp at e
 rename_i c2
 rw [if_neg c2]
 have c0 : (Ke h.tree id).2 = 0 := by simpa using c
 have ht : tasksK h id = [] := by
  have : ¬ 0 < (tasksK h id).length := by simpa using c2
  exact List.eq_nil_of_length_eq_zero (by omega)
 clear c e
 unfold Ke at c0 ⊢
 split at c0
 ·simp at c0
 rename_i d1
 rw [if_neg d1]
 split at c0
 ·simp at c0
 rename_i d2
 rw [if_neg d2]
 split at c0
 ·simp at c0
 rename_i d3
 rw [if_neg d3]
 refine ⟨by simpa using d1,by simpa using d2,?_,ht,rfl⟩
 intro x hx hp
 have hk : ¬ 0 < (En h.tree id).length := by simpa using d3
 have : x.id ∈ En h.tree id := kids_iff.mpr ⟨x,hx,hp,rfl⟩
 have := List.length_pos_of_mem this
 omega
structure Cut (t t' : Ae) (id : Int) : Prop where
 nodes : t'.nodes = t.nodes.filter (fun x => x.id != id)
 leaf : ∀ x ∈ t.nodes,x.parent ≠ id
theorem Cut.get {t t' : Ae} {id : Int} (c : Cut t t' id) {a : Int} (h : a ≠ id) : Fn t' a = Fn t a := by
 unfold Fn
 rw [c.nodes,List.find?_filter]
 congr 1
 funext x
 by_cases hx : x.id = a
 ·simp [hx,h]
 ·simp [hx]
theorem Cut.has {t t' : Ae} {id : Int} (c : Cut t t' id) {a : Int} (h : a ≠ id) : Aw t' a = Aw t a := by
 unfold Aw
 rw [c.get h]
theorem Cut.node {t t' : Ae} {id : Int} (c : Cut t t' id) {a : Int} (h : a ≠ id) : As t' a = As t a := by
 unfold As
 rw [c.get h]
theorem Cut.up {t t' : Ae} {id : Int} (c : Cut t t' id) {a : Int} (h : a ≠ id) : upT t' a = upT t a := by
 unfold upT
 rw [c.nodes,← List.filter_reverse]
 exact AgR h (fun x hx => c.leaf x (by simpa using hx))
theorem Cut.inUp {t t' : Ae} {id : Int} (c : Cut t t' id) (w : WfT t) {a b : Int} (h : a ≠ id) (hb : b ∈ upT t a) : b ≠ id := by
 obtain ⟨x,hx,rfl⟩ := Yr hb
 rcases up_child w x hx hb with e | ⟨k,hk,_⟩
 ·omega
 ·obtain ⟨y,hy,e,_⟩ := kids_iff.mp hk
  intro he
  rw [he] at e
  exact c.leaf y hy e
theorem Cut.thr {t t' : Ae} {id : Int} (c : Cut t t' id) {a : Int} (h : a ≠ id) : Cu t' a = Cu t a := by
 unfold Cu
 rw [c.node h]
theorem Ahq {α : Type} {p q : α → Bool} {l : List α} (h : ∀ x ∈ l,p x = q x) : l.find? p = l.find? q := by
 induction l with
 | nil => rfl
 | cons a r ih =>
  rw [List.find?_cons,List.find?_cons,h a (by simp),ih (fun x hx => h x (by simp [hx]))]
theorem Cut.dom {t t' : Ae} {id : Int} (c : Cut t t' id) (w : WfT t) {a : Int} (h : a ≠ id) : Ei t' a = Ei t a := by
 unfold Ei
 rw [c.up h,Ahq (fun x hx => by rw [c.thr (c.inUp w h hx)])]
theorem Cut.inv {t t' : Ae} {id : Int} (c : Cut t t' id) (w : WfT t) {a : Int} (h : a ≠ id) : Lz t' a = Lz t a := by
 unfold Lz
 rw [c.up h,Ahq (fun x hx => c.thr (c.inUp w h hx))]
theorem Cut.type {t t' : Ae} {id : Int} (c : Cut t t' id) (w : WfT t) {a : Int} (h : a ≠ id) : Db t' a = 3 ↔ Db t a = 3 := by
 rw [type_inv,type_inv,c.has h,c.thr h,c.inv w h]
theorem Ake {h : Aa} (f : Bi h) {id : Int} (e : (Mt h id).2 = 0) : Bi (Mt h id).1 := by
 have w := f.snd.wf
 have w' := AkD w rfl e
 obtain ⟨hg,h1,hl,ht,e2⟩ := AgQ e
 rw [e2] at w' ⊢
 simp only at w' ⊢
 have c : Cut h.tree { nodes := h.tree.nodes.filter (fun x => x.id != id),next := h.tree.next } id := ⟨rfl,hl⟩
 generalize hT : ({ nodes := h.tree.nodes.filter (fun x => x.id != id),next := h.tree.next } : Ae) = T at w' c
 have hmem : ∀ x ∈ T.nodes,x ∈ h.tree.nodes ∧ x.id ≠ id := by
  intro x hx
  rw [c.nodes] at hx
  have := List.mem_filter.mp hx
  exact ⟨this.1,by simpa using this.2⟩
 have htk : ∀ x ∈ h.tasks,x.group ≠ id := tasks_nil.mp ht
 have hk : ∀ a,tasksK { tree := T,tasks := h.tasks,next := h.next } a = tasksK h a := fun _ => rfl
 refine ⟨⟨w',fun x hx => ?_⟩,fun x hx => ?_,fun x hx => ?_⟩
 ·obtain ⟨hx1,hx2⟩ := hmem x hx
  have sn := f.snd.snd x hx1
  have e1 : Hq T x = Hq h.tree x := by
   unfold Hq Wv
   rw [c.node (hl x hx1)]
  exact ⟨by show Ax .i64 x.control (Hq T x) = 0; rw [e1]; exact sn.av,sn.busy⟩
 ·have hx' : x ∈ h.tasks := hx
  have hld := Pi w hx'
  show Ei T x.group = Ei T (Ih h x).group
  rw [c.dom w.tree (htk x hx'),c.dom w.tree (htk _ hld.2.1)]
  exact f.dom x hx'
 ·obtain ⟨hx1,hx2⟩ := hmem x hx
  have n := f.nod x hx1
  refine ⟨fun h3 => ?_,fun h1 => ?_⟩
  ·exact n.inv ((c.type w.tree hx2).mp h3)
  ·show (x.parent ≠ 1 → kand .i64 (As T x.parent).control 6 = 0) ∧ Db T x.parent ≠ 3
   rw [c.node (hl x hx1)]
   exact ⟨(n.thr h1).1,fun h3 => (n.thr h1).2 ((c.type w.tree (hl x hx1)).mp h3)⟩
structure TaskRel (t : Ae) (u : Int) (x y : Am) : Prop where
 id : y.id = x.id
 proc : y.process = x.process
 user : y.user = x.user
 mine : x.user ≠ u → y = x
 out : Cj t u x.group = false → y.group = x.group
 into : Aw t y.group = true → Cj t u y.group = false → y.group = x.group
structure Iso (o h : Aa) (u : Int) : Prop where
 fits : Bi h
 next : o.tree.next ≤ h.tree.next
 old : ∀ y ∈ h.tree.nodes,y.id < o.tree.next → ∃ x ∈ o.tree.nodes,x.id = y.id ∧ x.parent = y.parent ∧ x.owner = y.owner ∧ x.name = y.name
 full : ∀ x ∈ o.tree.nodes,Dy o.tree u x.id = false → ∃ y ∈ h.tree.nodes,y.id = x.id ∧ y.kind = x.kind
 enter : ∀ x ∈ o.tree.nodes,Cj o.tree u x.id = false → x ∈ h.tree.nodes
 tasks : ∃ f : Am → Am,h.tasks = o.tasks.map f ∧ ∀ x ∈ o.tasks,TaskRel o.tree u x (f x)
theorem iso_start {o : Aa} (f : Bi o) (u : Int) : Iso o o u := by
 refine ⟨f,Int.le_refl _,fun y hy _ => ⟨y,hy,rfl,rfl,rfl,rfl⟩,fun x hx _ => ⟨x,hx,rfl,rfl⟩,fun x hx _ => hx,id,by simp,fun x _ => ⟨rfl,rfl,rfl,fun _ => rfl,fun _ => rfl,fun _ _ => rfl⟩⟩
section
variable {o h : Aa} {u : Int}
theorem Iso.up (I : Iso o h u) (wo : WfT o.tree) : ∀ y ∈ h.tree.nodes,y.id < o.tree.next → upT h.tree y.id = upT o.tree y.id := by
 have w := I.fits.snd.wf.tree
 refine w.induct ?_
 intro y hy ih hlt
 obtain ⟨x,hx,e1,e2,e3,e4⟩ := I.old y hy hlt
 rw [w.up hy,← e1,wo.up hx,e1,e2]
 congr 1
 by_cases h1 : y.id = 1
 ·have := AcB w hy h1
  rw [this.1,w.upZero,wo.upZero]
 ·obtain ⟨z,hz,ez⟩ := hasN_iff.mp (Adr w hy h1)
  have := w.par_lt hy
  rw [← ez]
  exact ih z hz ez (by omega)
theorem Iso.owner (I : Iso o h u) (wo : WfT o.tree) {a : Int} (h1 : Aw h.tree a = true) (h2 : a < o.tree.next) : Aw o.tree a = true ∧ (As h.tree a).owner = (As o.tree a).owner := by
 have w := I.fits.snd.wf.tree
 obtain ⟨y,hy,rfl⟩ := hasN_iff.mp h1
 obtain ⟨x,hx,e1,e2,e3,e4⟩ := I.old y hy h2
 refine ⟨by rw [← e1]; exact Zz hx,?_⟩
 rw [Pg w hy,← e1,Pg wo hx,e3]
theorem Iso.owned (I : Iso o h u) (wo : WfT o.tree) {y : Ag} (hy : y ∈ h.tree.nodes) (hlt : y.id < o.tree.next) (l : List Int) (hl : ∀ a ∈ l,a ∈ upT h.tree y.id) : l.any (Rz h.tree u) = l.any (Rz o.tree u) := by
 have w := I.fits.snd.wf.tree
 have key : ∀ a ∈ l,Rz h.tree u a = Rz o.tree u a := by
  intro a ha
  obtain ⟨n,hn,en⟩ := up_mem w y hy a (hl a ha)
  have := up_le w y hy a (hl a ha)
  unfold Rz
  rw [(I.owner wo (a := a) (by rw [← en]; exact Zz hn) (by omega)).2]
 rw [Bool.eq_iff_iff,List.any_eq_true,List.any_eq_true]
 constructor
 ·rintro ⟨a,ha,e⟩
  exact ⟨a,ha,by rw [← key a ha]; exact e⟩
 ·rintro ⟨a,ha,e⟩
  exact ⟨a,ha,by rw [key a ha]; exact e⟩
theorem Iso.rights (I : Iso o h u) (wo : WfT o.tree) {a : Int} (h1 : Aw h.tree a = true) (h2 : a < o.tree.next) : Dy h.tree u a = Dy o.tree u a ∧ Cj h.tree u a = Cj o.tree u a := by
 obtain ⟨y,hy,rfl⟩ := hasN_iff.mp h1
 have hu := I.up wo y hy h2
 have e1 := I.owned wo hy h2 (upT h.tree y.id) (fun a ha => ha)
 have e2 := I.owned wo hy h2 ((upT h.tree y.id).drop 1) (fun a ha => List.mem_of_mem_drop ha)
 have ef : Dy h.tree u y.id = Dy o.tree u y.id := by
  unfold Dy
  rw [e2,hu]
 refine ⟨ef,?_⟩
 unfold Cj
 rw [ef,e1,hu]
theorem AgL {t : Ae} {u a : Int} (h : Dy t u a = true) : Cj t u a = true := by
 unfold Cj
 rw [h]
 rfl
theorem Iso.lt (wo : WfT o.tree) {a : Int} (h : Aw o.tree a = true) : a < o.tree.next := by
 obtain ⟨x,hx,rfl⟩ := hasN_iff.mp h
 exact wo.next x hx
theorem Iso.create (I : Iso o h u) {p : Int} {s : ByteArray} (e : (Qk h p s).2.2 = 0) : Iso o (Qk h p s).1 u := by
 have cf := AjD I.fits e
 have hshape : Qk h p s = ({ tree := (Ry h.tree p s).1,tasks := h.tasks,next := h.next },(Ry h.tree p s).2.1,0) ∧ (Ry h.tree p s).2.2 = 0 := by
  unfold Qk at e ⊢
  split at e
  ·rename_i c
   simp at c
   exact absurd e c
  ·rename_i c
   rw [if_neg c]
   exact ⟨rfl,by simpa using c⟩
 obtain ⟨e1,e2⟩ := hshape
 obtain ⟨g,_⟩ := AdA I.fits.snd.wf.tree rfl e2
 rw [e1] at cf ⊢
 simp only at cf ⊢
 generalize (Ry h.tree p s).1 = T at g cf
 have hsub : ∀ x ∈ h.tree.nodes,x ∈ T.nodes := fun x hx => by
  rw [g.nodes]
  exact List.mem_append_left _ hx
 refine ⟨cf,?_,?_,?_,?_,I.tasks⟩
 ·have := I.next
  have := g.next
  show o.tree.next ≤ T.next
  omega
 ·intro y hy hlt
  have hy : y ∈ T.nodes := hy
  rw [g.nodes] at hy
  rcases List.mem_append.mp hy with hy | hy
  ·exact I.old y hy hlt
  ·obtain rfl : y = { id := h.tree.next,parent := p,name := s,control := 0,kind := 0,owner := 0 } := by simpa using hy
   have := I.next
   simp only at hlt
   omega
 ·intro x hx hf
  obtain ⟨y,hy,e⟩ := I.full x hx hf
  exact ⟨y,hsub y hy,e⟩
 ·intro x hx hf
  exact hsub x (I.enter x hx hf)
theorem Iso.remove (I : Iso o h u) (wo : WfT o.tree) {id : Int} (e : (Mt h id).2 = 0) (hr : Dy h.tree u id = true) : Iso o (Mt h id).1 u := by
 have cf := Ake I.fits e
 obtain ⟨hg,h1,hl,ht,e2⟩ := AgQ e
 rw [e2] at cf ⊢
 have hne : ∀ x ∈ o.tree.nodes,Dy o.tree u x.id = false → x.id ≠ id := by
  intro x hx hf he
  have := (I.rights wo hg (by rw [← he]; exact wo.next x hx)).1
  rw [← he,hf] at this
  rw [← he,this] at hr
  simp at hr
 refine ⟨cf,I.next,?_,?_,?_,I.tasks⟩
 ·intro y hy hlt
  exact I.old y (List.mem_filter.mp hy).1 hlt
 ·intro x hx hf
  obtain ⟨y,hy,ey⟩ := I.full x hx hf
  refine ⟨y,List.mem_filter.mpr ⟨hy,?_⟩,ey⟩
  have := hne x hx hf
  simp
  omega
 ·intro x hx hf
  refine List.mem_filter.mpr ⟨I.enter x hx hf,?_⟩
  have hff : Dy o.tree u x.id = false := by
   cases hc : Dy o.tree u x.id with
   | false => rfl
   | true =>
    have := AgL hc
    rw [this] at hf
    simp at hf
  have := hne x hx hff
  simp
  omega
theorem Iso.change (I : Iso o h u) (wo : WfT o.tree) {id : Int} {y' : Ag} (hg : Aw h.tree id = true) (hr : Cj h.tree u id = true) (e1 : y'.id = (As h.tree id).id) (e2 : y'.parent = (As h.tree id).parent) (e3 : y'.owner = (As h.tree id).owner) (e4 : y'.name = (As h.tree id).name)
  (ek : Dy h.tree u id = false → y'.kind = (As h.tree id).kind) (cf : Bi (Hm h y')) : Iso o (Hm h y') u := by
 have w := I.fits.snd.wf.tree
 obtain ⟨hid,hm⟩ := Nc hg
 have hset : ∀ z ∈ h.tree.nodes,Lh y' z = z ∨ (z = As h.tree id ∧ Lh y' z = y') := by
  intro z hz
  unfold Lh
  split
  ·rename_i c
   have : z.id = y'.id := by simpa using c
   exact .inr ⟨Xn w.sorted hz hm (by omega),rfl⟩
  ·exact .inl rfl
 refine ⟨cf,I.next,?_,?_,?_,I.tasks⟩
 ·intro z hz hlt
  obtain ⟨v,hv,rfl⟩ := List.mem_map.mp hz
  rcases hset v hv with h1 | ⟨h1,h2⟩
  ·rw [h1] at hlt ⊢
   exact I.old v hv hlt
  ·rw [h2] at hlt ⊢
   obtain ⟨x,hx,a1,a2,a3,a4⟩ := I.old (As h.tree id) hm (by omega)
   exact ⟨x,hx,by rw [a1,e1],by rw [a2,e2],by rw [a3,e3],by rw [a4,e4]⟩
 ·intro x hx hf
  obtain ⟨z,hz,a1,a2⟩ := I.full x hx hf
  refine ⟨Lh y' z,List.mem_map_of_mem hz,?_⟩
  rcases hset z hz with h1 | ⟨h1,h2⟩
  ·rw [h1]
   exact ⟨a1,a2⟩
  ·rw [h2]
   have hxid : x.id = id := by rw [← a1,h1,hid]
   have hr2 := (I.rights wo hg (by rw [← hxid]; exact wo.next x hx)).1
   rw [← hxid,hf] at hr2
   rw [← hxid] at ek
   refine ⟨by rw [e1,← h1]; exact a1,?_⟩
   rw [hxid] at hr2 ek
   rw [ek hr2,← h1]
   exact a2
 ·intro x hx hf
  have hxm := I.enter x hx hf
  refine List.mem_map.mpr ⟨x,hxm,?_⟩
  rcases hset x hxm with h1 | ⟨h1,h2⟩
  ·exact h1
  ·exfalso
   have hxid : x.id = id := by rw [h1,hid]
   have hr2 := (I.rights wo hg (by rw [← hxid]; exact wo.next x hx)).2
   rw [← hxid,hf] at hr2
   rw [← hxid,hr2] at hr
   simp at hr
theorem Iso.move (I : Iso o h u) (wo : WfH o) (hu : u ≠ 0) {g : Int} {p : Am → Bool} {mv : Am → Am} (hmv : ∀ y,mv y = if p y then { id := y.id,process := y.process,group := g,user := y.user } else y)
  (hp : ∀ y ∈ h.tasks,p y = true → y.user = u ∧ Cj h.tree u g = true ∧ Cj h.tree u y.group = true) (cf : Bi { tree := h.tree,tasks := h.tasks.map mv,next := h.next }) : Iso o { tree := h.tree,tasks := h.tasks.map mv,next := h.next } u := by
 have w := I.fits.snd.wf
 obtain ⟨f,hf,hR⟩ := I.tasks
 refine ⟨cf,I.next,I.old,I.full,I.enter,mv ∘ f,?_,?_⟩
 ·show h.tasks.map mv = _
  rw [hf,List.map_map]
 ·intro x hx
  have r := hR x hx
  have hy : f x ∈ h.tasks := by
   rw [hf]
   exact List.mem_map_of_mem hx
  show TaskRel o.tree u x (mv (f x))
  rw [hmv]
  cases hpy : p (f x) with
  | false => exact r
  | true =>
   obtain ⟨p1,p2,p3⟩ := hp _ hy hpy
   have hxu : x.user = u := by rw [← r.user]; exact p1
   rw [if_pos rfl]
   refine ⟨r.id,r.proc,r.user,fun h => absurd hxu h,fun h => ?_,fun h1 h2 => ?_⟩
   ·exfalso
    have e := r.out h
    rw [e] at p3
    have hh := (w.val _ hy).grp
    rw [e] at hh
    have := (I.rights wo.tree hh (Iso.lt wo.tree (wo.val x hx).grp)).2
    rw [p3,h] at this
    simp at this
   ·exfalso
    simp only at h1 h2
    have := (I.rights wo.tree (Ait w.tree p2) (Iso.lt wo.tree h1)).2
    rw [p2,h2] at this
    simp at this
theorem Iso.tasksK (I : Iso o h u) {x : Ag} (hx : x ∈ o.tree.nodes) (he : Cj o.tree u x.id = false) : tasksK o x.id = tasksK h x.id := by
 obtain ⟨f,hf,hR⟩ := I.tasks
 unfold Go.Dm.tasksK
 rw [hf,List.filter_map,List.map_map]
 have hfil : o.tasks.filter (fun t => t.group == x.id) = o.tasks.filter ((fun t => t.group == x.id) ∘ f) := by
  apply List.filter_congr
  intro t ht
  have r := hR t ht
  simp only [Function.comp]
  by_cases h1 : t.group = x.id
  ·have := r.out (by rw [h1]; exact he)
   rw [this]
  ·by_cases h2 : (f t).group = x.id
   ·have := r.into (by rw [h2]; exact Zz hx) (by rw [h2]; exact he)
    rw [this]
   ·have e1 : (t.group == x.id) = false := by simpa using h1
    have e2 : ((f t).group == x.id) = false := by simpa using h2
    rw [e1,e2]
 rw [← hfil]
 apply List.map_congr_left
 intro t ht
 exact (hR t (List.mem_filter.mp ht).1).id.symm
end
end Go.Dm

/- Models of Go types and functions, printed by a program. -/
namespace Go.Dm
set_option linter.unusedVariables false
def Gt (n1 : (Aa × At) → Option Bool) (y34 : Aa × At) : Option Bool := (n1 (y34.1,y34.2))
def Bs (s1 : Aa × At) (n1 : (Aa × At) → Option Bool) (y35 : Aa × At × Int) : Option Bool := (if (y35.2.2 == 0) then ((Gt n1) (y35.1,y35.2.1)) else ((Gt n1) (s1.1,y35.2.1)))
def Js (r6 : Int × At) (k1 : Int) (s1 : Aa × At) (n1 : (Aa × At) → Option Bool) : Option Bool := (Option.bind (Hi s1.2 s1.1.tree) fun r275 => (Option.bind (Ij r275.2 s1.1) fun r276 => (Option.bind (Bq r276.2 7) fun r277 => (if (r277.1 == 0) then (Option.bind (Mo r277.2) fun r279 => (Option.bind (La s1.1 (w64 (1 + r6.1)) r275.1 r279.1) fun r280 => ((Bs s1 n1) (r280.1,r279.2,r280.2.2)))) else (if (r277.1 == 1) then (Option.bind (Oe s1.1 (w64 (1 + r6.1)) r275.1) fun r282 => ((Bs s1 n1) (r282.1,r277.2,r282.2))) else (if (r277.1 == 2) then (Option.bind (Ez r277.2) fun r284 => (Option.bind (Ka s1.1 (w64 (1 + r6.1)) r275.1 r284.1 0) fun r285 => ((Bs s1 n1) (r285.1,r284.2,r285.2)))) else (if (r277.1 == 3) then (Option.bind (Mx s1.1 (w64 (1 + r6.1)) r275.1) fun r287 => ((Bs s1 n1) (r287.1,r277.2,r287.2))) else (if (r277.1 == 4) then (Option.bind (Ez r277.2) fun r289 => (Option.bind (Ka s1.1 (w64 (1 + r6.1)) r275.1 0 r289.1) fun r290 => ((Bs s1 n1) (r290.1,r289.2,r290.2)))) else (if (r277.1 == 5) then (Option.bind (Lk s1.1 (w64 (1 + r6.1)) r276.1 r275.1) fun r292 => ((Bs s1 n1) (r292.1,r277.2,r292.2))) else (if (r277.1 == 6) then (Option.bind (Jv s1.1 (w64 (1 + r6.1)) r276.1 r275.1) fun r294 => ((Bs s1 n1) (r294.1,r277.2,r294.2))) else ((Bs s1 n1) (s1.1,r277.2,0))))))))))))
def Cq (n10 : Unit → Option Bool) (y48 : Bool) : Option Bool := (if y48 then (some false) else (n10 ()))
def De (r5 : Aa × At) (r6 : Int × At) (x10 : Ag) (n10 : Unit → Option Bool) (r374 : Ag × Bool) (y47 : Bool) : Option Bool := (if y47 then (some false) else (Option.bind (Wg r5.1.tree (w64 (1 + r6.1)) x10.id) fun r383 => (if (!r383) then (if (!r374.2) then ((Cq n10) true) else (if (!(Co x10.name r374.1.name)) then ((Cq n10) true) else (if (x10.kind != r374.1.kind) then ((Cq n10) true) else (if (x10.owner != r374.1.owner) then ((Cq n10) true) else ((Cq n10) (x10.parent != r374.1.parent)))))) else ((Cq n10) false))))
def Mw (r5 : Aa × At) (r6 : Int × At) (s1 : Aa × At) (k10 : Nat) (x10 : Ag) (s10 : Unit) (n10 : Unit → Option Bool) : Option Bool := (Option.bind (Cn s1.1.tree x10.id) fun r374 => (Option.bind (Xb r5.1.tree (w64 (1 + r6.1)) x10.id) fun r375 => (if (!r375) then (if (!r374.2) then ((De r5 r6 x10 n10 r374) true) else (if (!(AgN x10 r374.1)) then ((De r5 r6 x10 n10 r374) true) else (Option.bind (Ha r5.1 x10.id) fun r379 => (Option.bind (Ha s1.1 x10.id) fun r380 => (Option.bind (Zw r379 r380) fun r381 => ((De r5 r6 x10 n10 r374) (!r381))))))) else ((De r5 r6 x10 n10 r374) false))))
def Gl (n13 : Unit → Option Bool) (y51 : Bool) : Option Bool := (if y51 then (some false) else (n13 ()))
def Nd (r6 : Int × At) (s1 : Aa × At) (k13 : Nat) (x13 : Am) (s13 : Unit) (n13 : Unit → Option Bool) : Option Bool := (if (x13.user != (w64 (1 + r6.1))) then (if k13 < s1.1.tasks.length then ((Gl n13) (!(AeT (s1.1.tasks.getD k13 (default : Am)) x13))) else none) else ((Gl n13) false))
def Ti (s13 : Unit) : Option Bool := (Option.bind Wh fun r408 => (some r408))
def Nj (r5 : Aa × At) (r6 : Int × At) (s1 : Aa × At) (s10 : Unit) : Option Bool := (if r5.1.tasks.length ≤ 9223372036854775807 then Bd (Nd r6 s1) Ti r5.1.tasks 0 () else none)
def Gs (r5 : Aa × At) (r6 : Int × At) (s1 : Aa × At) (y36 : Bool) : Option Bool := (if y36 then (some false) else (if r5.1.tree.nodes.length ≤ 9223372036854775807 then Bd (Mw r5 r6 s1) (Nj r5 r6 s1) r5.1.tree.nodes 0 () else none))
def Ns (r5 : Aa × At) (r6 : Int × At) (s1 : Aa × At) : Option Bool := (Option.bind (Gb s1.1) fun r296 => (if (!r296) then ((Gs r5 r6 s1) true) else ((Gs r5 r6 s1) (((s1.1.tasks.length : Nat) : Int) != ((r5.1.tasks.length : Nat) : Int)))))
def Is (p0 : List Int) : Option Bool := (Option.bind (AaR p0) fun r1 => (if (!r1) then (Option.bind Wh fun r3 => (some r3)) else (Option.bind (Afk p0) fun r4 => (Option.bind (Ho r4 7 8) fun r5 => (Option.bind (Bq r5.2 2) fun r6 => (forO (Js r6) (Ns r5 r6) (Int.toNat (8 - 0)) 0 (r5.1,r6.2)))))))
end Go.Dm


/- The law DelegateIsolates, on the model. -/
namespace Go.Dm
theorem AjY {o : Aa} (wo : WfH o) {r6 : Int × At} (hu0 : 0 ≤ r6.1) (hu1 : r6.1 < 2) {j : Int} {s : Aa × At} {n : (Aa × At) → Option Bool} (I : Iso o s.1 (1 + r6.1)) (hd : Bt s.2)
  (hn : ∀ s',Iso o s'.1 (1 + r6.1) ∧ Bt s'.2 → Ok (n s') (· = true)) : Ok (Js r6 j s n) (· = true) := by
 have f := I.fits
 have w := f.snd.wf
 have l1 := w.len
 have l2 := w.tree.len2
 have hu : w64 (1 + r6.1) = 1 + r6.1 := Bu (by omega) (by omega)
 have hne : 1 + r6.1 ≠ 0 := by omega
 have hJ : ∀ (q : Aa) (e : Int) (d : At),Bt d → (e = 0 → Iso o q (1 + r6.1)) → Ok (Bs s n (q,d,e)) (· = true) := by
  intro q e d hd hq
  unfold Bs Gt
  refine Ok.ite (fun c => hn _ ⟨hq (by simpa using c),hd⟩) fun _ => hn _ ⟨I,hd⟩
 unfold Js
 rw [hu]
 refine Ok.bind (AdQ hd _ (by omega)) fun g hd => Ok.bind (AfD hd _ (by omega)) fun k hd => Ok.bind (Hf hd 7 (by omega) (by omega)) fun m ⟨hd,m0,m1⟩ => ?_
 have hW : ∀ (a d : Int) (di : At),Bt di → ((actW s.1 (1 + r6.1) g.1 a d).2 = 0 → Iso o (actW s.1 (1 + r6.1) g.1 a d).1 (1 + r6.1)) := by
  intro a d di hdi e
  obtain ⟨e1,e2,e3,e4⟩ := actW_ok e
  rw [e4] at e ⊢
  obtain ⟨c1,c2,c3,c4⟩ := AkG f e
  rw [c3] at c1 ⊢
  exact I.change wo.tree c2 e3 rfl rfl rfl rfl (fun _ => rfl) c1
 refine Ok.ite (fun _ => ?_) fun c0 => ?_
 ·refine Ok.bind (Name_ok hd) fun v ⟨hd,hv⟩ => ?_
  have hsz : v.1.size ≤ 1073741824 := by
   unfold Dj at hv
   simp only [Bool.and_eq_true,decide_eq_true_eq] at hv
   omega
  rw [AfG f _ g.1 hsz,Option.bind_some]
  refine hJ _ _ _ hd fun e => ?_
  have e2 := (actC_ok e).2.2.2
  rw [e2] at e ⊢
  exact I.create e
 refine Ok.ite (fun _ => ?_) fun c1 => ?_
 ·rw [AfI f,Option.bind_some]
  refine hJ _ _ _ hd fun e => ?_
  obtain ⟨e1,e2,e3,e4⟩ := actR_ok e
  rw [e4] at e ⊢
  exact I.remove wo.tree e e3
 refine Ok.ite (fun _ => ?_) fun c2 => ?_
 ·refine Ok.bind (Ys hd) fun c ⟨hd,c0,c1⟩ => ?_
  rw [Aae f _ g.1 c0 c1 (by decide) (by decide),Option.bind_some]
  exact hJ _ _ _ hd (hW _ _ _ hd)
 refine Ok.ite (fun _ => ?_) fun c3 => ?_
 ·rw [AeJ f,Option.bind_some]
  refine hJ _ _ _ hd fun e => ?_
  obtain ⟨e1,e2,e3,e4⟩ := actV_ok e
  rw [e4] at e ⊢
  obtain ⟨c1,c2,c3⟩ := Akj e
  rw [c3] at c1 ⊢
  exact I.change wo.tree c2 (AgL e3) rfl rfl rfl rfl (fun h => by rw [e3] at h; simp at h) c1
 refine Ok.ite (fun _ => ?_) fun c4 => ?_
 ·refine Ok.bind (Ys hd) fun c ⟨hd,c0,c1⟩ => ?_
  rw [Aae f _ g.1 (by decide) (by decide) c0 c1,Option.bind_some]
  exact hJ _ _ _ hd (hW _ _ _ hd)
 refine Ok.ite (fun _ => ?_) fun c5 => ?_
 ·rw [Ahk f,Option.bind_some]
  refine hJ _ _ _ hd fun e => ?_
  obtain ⟨e1,e2,e3,e4,e5,e6⟩ := actM_ok e
  rw [e6] at e ⊢
  have cf := attK_fits f e
  obtain ⟨_,_,_,_,_,a6⟩ := attK_ok e
  rw [a6] at cf ⊢
  refine I.move wo hne (p := fun y => y.process == k.1) (mv := Ql k.1 g.1) (fun y => rfl) (fun y hy hp => ?_) cf
  have := Ain w hne (List.all_eq_true.mp e5 y.id (List.mem_map.mpr ⟨y,List.mem_filter.mpr ⟨hy,hp⟩,rfl⟩))
  rw [AaT w.sorted hy] at this
  exact this
 refine Ok.ite (fun _ => ?_) fun c6 => ?_
 ·rw [AcV f,Option.bind_some]
  refine hJ _ _ _ hd fun e => ?_
  obtain ⟨e1,e2,e3,e4,e5⟩ := actT_ok e
  rw [e5] at e ⊢
  have cf := Ahm f e
  obtain ⟨_,_,_,_,a5⟩ := Ajc e
  rw [a5] at cf ⊢
  refine I.move wo hne (p := fun y => y.id == k.1) (mv := Nq k.1 g.1) (fun y => rfl) (fun y hy hp => ?_) cf
  have hk : y.id = k.1 := by simpa using hp
  have := Ain w hne e4
  rw [← hk,AaT w.sorted hy] at this
  exact this
 ·exact hJ _ _ _ hd fun _ => I
theorem Aej (l : List Int) : Ok (Is l) (· = true) := by
 have sane : ∀ {f : Bool → Option Bool},f true = some true → Ok (Option.bind Wh f) (· = true) := fun h => Ok.step AjX (Ok.of_eq h rfl)
 unfold Is AaR
 refine Ok.step rfl ?_
 refine Ok.ite (fun _ => sane rfl) fun c => ?_
 have hl : l.length ≤ 600 := by
  have : ((l.length : Nat) : Int) ≤ 600 := by simpa using c
  omega
 refine Ok.step (a := { l := l,atF := 0 }) rfl ?_
 refine Ok.bind (AhM (dice_roll hl) 7 8 (by omega) (by omega) (by omega) (by omega)) fun r5 ⟨w,hd,f⟩ => ?_
 have l1 := w.len
 have l2 := w.tree.len2
 refine Ok.bind (Hf hd 2 (by omega) (by omega)) fun r6 ⟨hd,a0,a1⟩ => ?_
 have hu : w64 (1 + r6.1) = 1 + r6.1 := Bu (by omega) (by omega)
 refine Ok.for (fun _ s => Iso r5.1 s.1 (1 + r6.1) ∧ Bt s.2) ⟨iso_start f _,hd⟩ ?_ ?_
 ·intro j s n hj ⟨I,hs⟩ hn
  exact AjY w a0 a1 I hs hn
 intro s ⟨I,_⟩
 have w' := I.fits.snd.wf
 obtain ⟨fm,hfm,hR⟩ := I.tasks
 have hlen : s.1.tasks.length = r5.1.tasks.length := by rw [hfm,List.length_map]
 unfold Ns
 rw [Zc I.fits,Option.bind_some,if_neg (by simp),hlen]
 unfold Gs
 rw [if_neg (by simp)]
 refine Ok.guard (by omega) ?_
 refine Ok.range (fun _ _ => True) trivial ?_ fun _ _ => ?_
 ·intro pre x post _ n he _ hn
  have hx : x ∈ r5.1.tree.nodes := by rw [he]; simp
  have hfull : ∀ b,b = false → Ok (De r5 r6 x n (As s.1.tree x.id,Aw s.1.tree x.id) b) (· = true) := by
   rintro b rfl
   unfold De Cq
   rw [if_neg (by simp),hu,Agd w.tree,Option.bind_some]
   refine Ok.ite (fun c => ?_) fun _ => hn () trivial
   have hf : Dy r5.1.tree (1 + r6.1) x.id = false := by simpa using c
   obtain ⟨y,hy,e1,e2⟩ := I.full x hx hf
   obtain ⟨z,hz,g1,g2,g3,g4⟩ := I.old y hy (by rw [e1]; exact w.tree.next x hx)
   obtain rfl : z = x := Xn w.tree.sorted hz hx (by omega)
   have hyn : As s.1.tree z.id = y := by rw [← e1]; exact Pg w'.tree hy
   have hyh : Aw s.1.tree z.id = true := by rw [← e1]; exact Zz hy
   rw [hyn,hyh]
   simp only [Bool.not_true,Bool.false_eq_true,if_false]
   rw [← g4,Acc,e2,← g3,← g2]
   simpa using hn () trivial
  unfold Mw
  rw [Ua w'.tree,Option.bind_some,hu,AjB w.tree,Option.bind_some]
  refine Ok.ite (fun c => ?_) fun _ => hfull _ rfl
  have he2 : Cj r5.1.tree (1 + r6.1) x.id = false := by simpa using c
  have hm := I.enter x hx he2
  have hyn : As s.1.tree x.id = x := Pg w'.tree hm
  have hyh : Aw s.1.tree x.id = true := Zz hm
  rw [hyh] at hfull ⊢
  rw [hyn] at hfull ⊢
  rw [if_neg (by simp),Akl,if_neg (by simp),Sp w,Option.bind_some,Sp w',Option.bind_some,I.tasksK hx he2]
  have hkl : (tasksK s.1 x.id).length ≤ 1000000 := by
   unfold tasksK
   rw [List.length_map]
   have := List.length_filter_le (fun y : Am => y.group == x.id) s.1.tasks
   omega
  rw [Aif _ hkl,Option.bind_some]
  exact hfull _ rfl
 ·unfold Nj
  refine Ok.guard (by omega) ?_
  refine Ok.range (fun _ _ => True) trivial ?_ fun _ _ => sane rfl
  intro pre x post _ n he _ hn
  have hx : x ∈ r5.1.tasks := by rw [he]; simp
  unfold Nd Gl
  rw [hu]
  refine Ok.ite (fun c => ?_) fun _ => hn () trivial
  have hlt : pre.length < s.1.tasks.length := by
   rw [hlen,he]
   simp
  refine Ok.guard hlt ?_
  have hg : s.1.tasks.getD pre.length (default : Am) = x := by
   rw [hfm,he,List.map_append,List.map_cons]
   have : pre.length = (pre.map fm).length := by simp
   rw [this,Abj]
   exact (hR x hx).mine (by simpa using c)
  rw [hg,Akh]
  exact hn () trivial
theorem Adn (l : List Int) (_ : ∀ n ∈ l,-9223372036854775808 ≤ n ∧ n ≤ 9223372036854775807) : Is l = some true := (Aej l).eq
end Go.Dm

/- Types of the program. -/
namespace Go.Dm
open Go.Proofs
set_option linter.unusedVariables false
def Tt : Ty := [(3,⟨.int .i64,1,8,[.int .i64 0],false⟩),
  (5,⟨.int .u8,1,1,[.int .u8 0],false⟩),
  (9,⟨.str,1,16,[.string ByteArray.empty],false⟩),
  (22,⟨.slice 3,1,24,[.slice none 0 0],false⟩),
  (27,⟨.slice 52,1,24,[.slice none 0 0],false⟩),
  (29,⟨.struct [(0,27),(1,3)],2,32,[.slice none 0 0,.int .i64 0],false⟩),
  (30,⟨.slice 59,1,24,[.slice none 0 0],false⟩),
  (32,⟨.struct [(0,29),(2,30),(3,3)],4,64,[.slice none 0 0,.int .i64 0,.slice none 0 0,.int .i64 0],false⟩),
  (34,⟨.int .i64,1,8,[.int .i64 0],false⟩),
  (52,⟨.struct [(0,3),(1,3),(2,9),(3,3),(4,3),(5,3)],6,56,[.int .i64 0,.int .i64 0,.string ByteArray.empty,.int .i64 0,.int .i64 0,.int .i64 0],true⟩),
  (59,⟨.struct [(0,3),(1,3),(2,3),(3,3)],4,32,[.int .i64 0,.int .i64 0,.int .i64 0,.int .i64 0],true⟩),
  (66,⟨.struct [(0,22),(1,3)],2,32,[.slice none 0 0,.int .i64 0],false⟩),
  (76,⟨.slice 9,1,24,[.slice none 0 0],false⟩),
  (100,⟨.map 3 3,1,8,[(.map none)],false⟩),
  (122,⟨.slice 5,1,24,[.slice none 0 0],false⟩),
  (127,⟨.int .u64,1,8,[.int .u64 0],false⟩),
  (129,⟨.int .i64,1,8,[.int .i64 0],false⟩),
  (139,⟨.int .u64,1,8,[.int .u64 0],false⟩),
  (140,⟨.int .u64,1,8,[.int .u64 0],false⟩)]
theorem Tgood : Mz Tryz.prog Tt := tyGood_of ⟨⟨⟨by kernel_rfl,by kernel_rfl⟩,trivial⟩,⟨⟨by kernel_rfl,by kernel_rfl⟩,trivial⟩,⟨⟨by kernel_rfl,by kernel_rfl⟩,trivial⟩,⟨⟨by kernel_rfl,by kernel_rfl⟩,trivial⟩,⟨⟨by kernel_rfl,by kernel_rfl⟩,trivial⟩,⟨⟨by kernel_rfl,by kernel_rfl⟩,trivial⟩,⟨⟨by kernel_rfl,by kernel_rfl⟩,trivial⟩,⟨⟨by kernel_rfl,by kernel_rfl⟩,trivial⟩,⟨⟨by kernel_rfl,by kernel_rfl⟩,trivial⟩,⟨⟨by kernel_rfl,by kernel_rfl⟩,⟨by kernel_rfl,by kernel_rfl,by kernel_rfl⟩⟩,⟨⟨by kernel_rfl,by kernel_rfl⟩,⟨by kernel_rfl,by kernel_rfl,by kernel_rfl⟩⟩,⟨⟨by kernel_rfl,by kernel_rfl⟩,trivial⟩,⟨⟨by kernel_rfl,by kernel_rfl⟩,trivial⟩,⟨⟨by kernel_rfl,by kernel_rfl⟩,trivial⟩,⟨⟨by kernel_rfl,by kernel_rfl⟩,trivial⟩,⟨⟨by kernel_rfl,by kernel_rfl⟩,trivial⟩,⟨⟨by kernel_rfl,by kernel_rfl⟩,trivial⟩,⟨⟨by kernel_rfl,by kernel_rfl⟩,trivial⟩,⟨⟨by kernel_rfl,by kernel_rfl⟩,trivial⟩,trivial⟩ (by kernel_rfl) (by kernel_rfl)
theorem mixed : Tryz.prog.follows .mixedOrders = true := by kernel_rfl
theorem RK {cx : Cx} {σ : St} {Q : Exit → St → Prop} {nt : Nat} (hnt : cx.nt = nt) {ops : Array Oper} {id : Nat} {draw : Bool} {r : List Code} (xs : List Orc) (sl : List (Nat × MV)) (ob : List (Nat × Obj))
    {q : Prop} (hq : q) (hQ : DW Tryz.prog cx r (Al sl ob) Q) (h : Zk Tryz.prog Tt nt ops xs (Da sl) (Da ob) draw σ = some ((sl,ob),q) := by kernel_rfl) : DW Tryz.prog cx (.region id ops draw :: r) σ Q := DW.rk Tgood mixed hnt xs sl ob hq h hQ
theorem RD {cx : Cx} {Q : Exit → St → Prop} {nt : Nat} (hnt : cx.nt = nt) {ops : Array Oper} {id : Nat} {draw : Bool} {r : List Code} {sl0 : List (Nat × MV)} {ob0 : List (Nat × Obj)} (xs : List Orc) (ds : List Nat) (us : List (Nat × MV)) (dk : List Nat) (uo : List (Nat × Obj))
    {q : Prop} (hq : q) (hQ : DW Tryz.prog cx r (Al (up ds us sl0) (up dk uo ob0)) Q) (h : Zk Tryz.prog Tt nt ops xs (Da (up ds us sl0)) (Da (up dk uo ob0)) draw (Al sl0 ob0) = some ((up ds us sl0,up dk uo ob0),q) := by kernel_rfl) : DW Tryz.prog cx (.region id ops draw :: r) (Al sl0 ob0) Q := DW.rd Tgood mixed hnt xs ds us dk uo hq hQ h
theorem SO {f : FuncId} {fn : Func} {c : Code} (hf : Tryz.prog.funcs[f]? = some fn) (hb : fn.body = some c)
    {args : List MV} {outs : List Body} {res : MV} {outs' news : List Body} (hlen : outs'.length = outs.length)
    (sl : List (Nat × MV)) (ob : List (Nat × Obj)) (hd : ∀ cx : Cx,cx.nt = fn.ntmps → DW Tryz.prog cx [c] (Al sl ob) (finQ Tt fn.results.toList outs.length res (outs' ++ news)))
    (hname : fn.name ≠ "runtime.NumGoroutine" := by decide) (hle : Nat.ble args.length fn.ntmps = true := by rfl) (hm : Nat.ble outs.length 1000 = true := by rfl)
    (h1 : AbM (upN args.length 0) (upN outs.length 0) ⟨fun t => (args[t]?).getD .any,Bw outs⟩ = sl := by kernel_rfl)
    (h2 : Ya (upN outs.length 0) ⟨fun t => (args[t]?).getD .any,Bw outs⟩ = ob := by kernel_rfl) :
    Spec Tryz.prog f args outs res outs' news := spec_of Tgood hf hname hb hlen (Nat.le_of_ble_eq_true hle) (Nat.le_of_ble_eq_true hm) h1 h2 fun cx hnt => DW.start (hd cx hnt)
theorem RN {cx : Cx} {σ : St} {Q : Exit → St → Prop} {nt : Nat} (hnt : cx.nt = nt) {ops : Array Oper} {id : Nat} {draw : Bool} {r : List Code} (xs : List Orc) (sl : List (Nat × MV)) (ob : List (Nat × Obj))
    (ps : List (Nat × MV)) (qs : List (Nat × Body)) {q : Prop} (hq : q) (h : Zk Tryz.prog Tt nt ops xs (Da sl) (Da ob) draw σ = some ((Sm ps sl,Rh qs ob),q)) (hs : SP sl ps) (ho : OP ob qs)
    (hQ : DW Tryz.prog cx r (Al sl ob) Q) : DW Tryz.prog cx (.region id ops draw :: r) σ Q := DW.rn Tgood mixed hnt xs sl ob ps qs hq h hs ho hQ
theorem RT {cx : Cx} {σ : St} {nt : Nat} (hnt : cx.nt = nt) {ops : Array Oper} {draw : Bool} {sl : List (Nat × MV)} {ob : List (Nat × Obj)} (xs : List Orc)
    (ps : List (Nat × MV)) {q : Prop} (hq : q) (h : Zk Tryz.prog Tt nt ops xs (Da sl) (Da ob) draw σ = some ((Sm ps sl,ob),q)) (hs : SP sl ps) : RegTo Tryz.prog cx ops draw σ sl ob := RegTo.rn Tgood mixed hnt xs ps hq h hs
end Go.Dm


/- Go functions compute their models, printed by a program. -/
namespace Go.Dm
open Go.Proofs
set_option linter.unusedVariables false
theorem AhL (p0 : List Int) (RES : Bool) (hm : AaR p0 = some RES) : Spec Tryz.prog 5 [.p (slI p0)] [] (pB RES) [] [] := by
 unfold AaR at hm
 refine SO Tryz.func5 rfl rfl [(0,.p (slI p0))] [] ?_
 intro cx hnt
 refine Sq (RK hnt (.no :: []) [(0,.p (slI p0))] [] tv ?_)
 refine Sq (RK hnt (nn 4 []) [(2,pB (decide (((p0.length : Nat) : Int) ≤ 600)))] [] tv ?_)
 obtain rfl := sj hm
 exact DW.ret (Ai [] [] (pB (decide (((p0.length : Nat) : Int) ≤ 600))))
abbrev o2 (ks : List Nat) (b : Bool) (RES : Bool) : Orc := .call 5 ks b (pB RES) [] []

abbrev c5e1 := ({ id := 1,parent := 0,name := ByteArray.empty,control := 0,kind := 0,owner := 0 } : Ag)
theorem Afh (RES : Ae) (hm : Abn = some RES) : Spec Tryz.prog 74 [] [] (.agg [ow 0 RES.nodes.length,pI RES.next]) [] [Ac RES.nodes] := by
 unfold Abn at hm
 refine SO Tryz.func74 rfl rfl [] [] ?_
 intro cx hnt
 refine Sq (RK hnt (.no :: []) [(0,rr 1000)] [(1000,bx [.p (.sl .nil 0 0 (fun _ => [])),pI 0])] tv ?_)
 refine Sq (RN hnt (nn 4 []) [(0,rr 1000)] [(1000,bx [ow 1016 [(c5e1)].length,pI 2]),(1016,ob0 (Ac [(c5e1)]))] [] [(1000,.box [ow 1016 1,pI 2]),(1016,.row 6 1 (cut 6 [vi 1,vi 0,vs ByteArray.empty,vi 0,vi 0,vi 0]))] tv (by kernel_rfl) .nil (.cons rfl (.box (.cons (MLe.ownLen (enc := Ak) (d := Ar) (f := (cut 6 [vi 1,vi 0,vs ByteArray.empty,vi 0,vi 0,vi 0])) (RowIs.lit (enc := Ak) (d := Ar) (n := 1) (f := (cut 6 [vi 1,vi 0,vs ByteArray.empty,vi 0,vi 0,vi 0])) [(c5e1)] rfl (fun | 0,_ => rfl | n + 1,h => absurd h (by omega)))) (.cons .rfl .nil))) (.cons rfl (BLe.typed (RowIs.lit (enc := Ak) (d := Ar) (n := 1) (f := (cut 6 [vi 1,vi 0,vs ByteArray.empty,vi 0,vi 0,vi 0])) [(c5e1)] rfl (fun | 0,_ => rfl | n + 1,h => absurd h (by omega)))) .nil)) ?_)
 obtain rfl := sj hm
 exact DW.ret (Ai [Ac [(c5e1)]] [1016] (.agg [ow 0 [(c5e1)].length,pI 2]))
abbrev o5 (ks : List Nat) (b : Bool) (RES : Ae) : Orc := .call 74 ks b (.agg [ow 0 RES.nodes.length,pI RES.next]) [] [Ac RES.nodes]

theorem AeI (RES : Aa) (hm : AdC = some RES) : Spec Tryz.prog 30 [] [] (.agg [ow 0 RES.tree.nodes.length,pI RES.tree.next,ow 1 RES.tasks.length,pI RES.next]) [] [Ac RES.tree.nodes,Af RES.tasks] := by
 unfold AdC at hm
 refine SO Tryz.func30 rfl rfl [] [] ?_
 intro cx hnt
 refine Sq (RK hnt (.no :: []) [(0,rr 1000)] [(1000,bx [.p (.sl .nil 0 0 (fun _ => [])),pI 0,.p (.sl .nil 0 0 (fun _ => [])),pI 0])] tv ?_)
 obtain ⟨r1,hr1,hm⟩ := bo hm
 refine Sq (RK hnt (o5 [] true r1 :: nn 2 []) [(0,rr 1000)] [(1000,bx [ow 1008 r1.nodes.length,pI r1.next,.p (.sl .nil 0 0 (fun _ => [])),pI 1]),(1008,ob0 (Ac r1.nodes))] (an (Afh r1 hr1) tv) ?_)
 refine DW.cv [] [] [] [(1000,bx [ow 1008 r1.nodes.length,pI r1.next,ow 100000 0,pI 1]),(100000,ob0 (Af []))] (Conv.ads [(.o 1000 2,100000,4,elems Ao Ba [])]) ?_
 obtain rfl := sj hm
 exact DW.ret (Ai [Ac r1.nodes,Af []] [1008,100000] (.agg [ow 0 r1.nodes.length,pI r1.next,ow 1 0,pI 1]))
abbrev o4 (ks : List Nat) (b : Bool) (RES : Aa) : Orc := .call 30 ks b (.agg [ow 0 RES.tree.nodes.length,pI RES.tree.next,ow 1 RES.tasks.length,pI RES.next]) [] [Ac RES.tree.nodes,Af RES.tasks]

abbrev Aco (p0 : ByteArray) (k1 : Int) : Nat × MV := (57,pB (!((((Bh p0 (Int.toNat k1)) : Nat) : Int) == 45)))
theorem Adb (p0 : ByteArray) (RES : Bool) (hm : Tw p0 = some RES) : Spec Tryz.prog 118 [pS p0] [] (pB RES) [] [] := by
 unfold Tw at hm
 refine SO Tryz.func118 rfl rfl [(0,pS p0)] [] ?_
 intro cx hnt
 refine Sq (RK hnt (.no :: []) [(0,pS p0)] [] tv ?_)
 refine Sq (Sq ?_)
 refine Jn (ι := Bool) (fun (y1 : Bool) => Al [(0,pS p0),(17,pB y1)] []) (fun y1 => (Qj p0) y1 = some RES) ?_ ?_
 ·intro y1 hm
  unfold Qj at hm
  refine Ah hm ?_ ?_
  ·intro h4 hm
   refine Sq (RK hnt (.no :: []) [(2,pB false)] [] tv ?_)
   obtain rfl := sj hm
   exact DW.ret (Ai [] [] (pB false))
  ·intro h4 hm
   refine Sk ?_
   refine Sq (Sq (RK hnt (.no :: []) [(0,pS p0),(3,pI 0)] [] tv ?_))
   refine Bk ?_
   obtain ⟨hc1,hm⟩ := go1 hm
   refine DW.forO (fun (k1 : Int) (s1 : Unit) => Al [(0,pS p0),(3,pI k1)] []) (lo := 0) (hi := ((p0.size : Nat) : Int)) hm .refl ?_
   intro k1 s1 n1 hk1 hs1 he1
   refine Sq (Sq (RD hnt (nn 4 []) [] [(21,pB (decide (k1 < ((p0.size : Nat) : Int))))] [] [] tv ?_))
   refine Bx (decide (k1 < ((p0.size : Nat) : Int))) ?_ ?_
   ·intro h55
    have hlt1 : k1 < ((p0.size : Nat) : Int) := by have := of_decide_eq_true h55; omega
    have hm := hs1 hlt1
    unfold Abz at hm
    refine Sk ?_
    refine Sq (Bk ?_)
    obtain ⟨g56,hm⟩ := go1 hm
    refine Sq (RD hnt (nn 4 []) [21] [(4,.p (vk .u8 (((Bh p0 (Int.toNat k1)) : Nat) : Int)))] [] [] (an g56.1 (an g56.2 tv)) ?_)
    refine Sq (DW.regJ (sl2 := [(0,pS p0),(3,pI k1),(57,pB (!((((((decide ((((Bh p0 (Int.toNat k1)) : Nat) : Int) ≥ 97)) && (decide ((((Bh p0 (Int.toNat k1)) : Nat) : Int) ≤ 122))) || ((decide ((((Bh p0 (Int.toNat k1)) : Nat) : Int) ≥ 65)) && (decide ((((Bh p0 (Int.toNat k1)) : Nat) : Int) ≤ 90)))) || ((decide ((((Bh p0 (Int.toNat k1)) : Nat) : Int) ≥ 48)) && (decide ((((Bh p0 (Int.toNat k1)) : Nat) : Int) ≤ 57)))) || ((((Bh p0 (Int.toNat k1)) : Nat) : Int) == 95)) || ((((Bh p0 (Int.toNat k1)) : Nat) : Int) == 45))))]) (ob2 := []) ?_ ?_)
    ·rcases bt (decide ((((Bh p0 (Int.toNat k1)) : Nat) : Int) ≥ 97)) with h57 | h57
     ·rcases bt (decide ((((Bh p0 (Int.toNat k1)) : Nat) : Int) ≤ 122)) with h58 | h58
      ·exact RT hnt (nn 5 (pT :: .no :: sk 6 (pT :: .no :: sk 6 (pT :: .no :: sk 2 (pT :: .no :: sk 2 (pT :: .no :: [])))))) [(57,pB false)] (an3 h57 (an5 h58 (an5 tt (an6 tt tv)))) (by kernel_rfl) (.cons rfl (.of_eq (by rw [h57,h58]; try rfl)) .nil)
      ·rcases bt (decide ((((Bh p0 (Int.toNat k1)) : Nat) : Int) ≥ 65)) with h59 | h59
       ·rcases bt (decide ((((Bh p0 (Int.toNat k1)) : Nat) : Int) ≤ 90)) with h60 | h60
        ·exact RT hnt (nn 5 (pT :: nn 6 (pT :: pF :: .no :: sk 6 (pT :: .no :: sk 2 (pT :: .no :: sk 2 (pT :: .no :: [])))))) [(57,pB false)] (an3 h57 (an3 h58 (an2 h59 (an h58 (an h59 (an h58 (an5 h60 (an6 tt tv)))))))) (by kernel_rfl) (.cons rfl (.of_eq (by rw [h57,h58,h59,h60]; try rfl)) .nil)
        ·rcases bt (decide ((((Bh p0 (Int.toNat k1)) : Nat) : Int) ≥ 48)) with h61 | h61
         ·rcases bt (decide ((((Bh p0 (Int.toNat k1)) : Nat) : Int) ≤ 57)) with h62 | h62
          ·exact RT hnt (nn 5 (pT :: nn 6 (pT :: pF :: nn 6 (pT :: pF :: .no :: sk 2 (pT :: .no :: sk 2 (pT :: .no :: [])))))) [(57,pB false)] (an3 h57 (an3 h58 (an2 h59 (an h58 (an h59 (an h58 (an3 h60 (an2 h61 (an h60 (an h61 (an h60 (an3 h62 (an3 tt tv))))))))))))) (by kernel_rfl) (.cons rfl (.of_eq (by rw [h57,h58,h59,h60,h61,h62]; try rfl)) .nil)
          ·rcases bt ((((Bh p0 (Int.toNat k1)) : Nat) : Int) == 95) with h63 | h63
           ·exact RT hnt (nn 5 (pT :: nn 6 (pT :: pF :: nn 6 (pT :: pF :: nn 3 (pF :: .no :: sk 2 (pT :: .no :: [])))))) [(57,pB false)] (an3 h57 (an3 h58 (an2 h59 (an h58 (an h59 (an h58 (an3 h60 (an2 h61 (an h60 (an h61 (an h60 (an3 h62 (an3 h63 tv))))))))))))) (by kernel_rfl) (.cons rfl (.of_eq (by rw [h57,h58,h59,h60,h61,h62,h63]; try rfl)) .nil)
           ·exact RT hnt (nn 5 (pT :: nn 6 (pT :: pF :: nn 6 (pT :: pF :: nn 3 (pF :: nn 3 (pF :: .no :: [])))))) [(Aco p0 k1)] (an3 h57 (an3 h58 (an2 h59 (an h58 (an h59 (an h58 (an3 h60 (an2 h61 (an h60 (an h61 (an h60 (an3 h62 (an3 h63 tv))))))))))))) (by kernel_rfl) (.cons rfl (.of_eq (by rw [h57,h58,h59,h60,h61,h62,h63]; try rfl)) .nil)
         ·rcases bt ((((Bh p0 (Int.toNat k1)) : Nat) : Int) == 95) with h64 | h64
          ·exact RT hnt (nn 5 (pT :: nn 6 (pT :: pF :: nn 4 (sk 2 (pF :: pF :: nn 3 (pF :: .no :: sk 2 (pT :: .no :: []))))))) [(57,pB false)] (an3 h57 (an3 h58 (an2 h59 (an h58 (an h59 (an h58 (an3 h60 (an2 h61 (an h60 (an h61 (an h60 (an3 ff (an3 h64 tv))))))))))))) (by kernel_rfl) (.cons rfl (.of_eq (by rw [h57,h58,h59,h60,h61,h64]; try rfl)) .nil)
          ·exact RT hnt (nn 5 (pT :: nn 6 (pT :: pF :: nn 4 (sk 2 (pF :: pF :: nn 3 (pF :: nn 3 (pF :: .no :: []))))))) [(Aco p0 k1)] (an3 h57 (an3 h58 (an2 h59 (an h58 (an h59 (an h58 (an3 h60 (an2 h61 (an h60 (an h61 (an h60 (an3 ff (an3 h64 tv))))))))))))) (by kernel_rfl) (.cons rfl (.of_eq (by rw [h57,h58,h59,h60,h61,h64]; try rfl)) .nil)
       ·rcases bt (decide ((((Bh p0 (Int.toNat k1)) : Nat) : Int) ≥ 48)) with h65 | h65
        ·rcases bt (decide ((((Bh p0 (Int.toNat k1)) : Nat) : Int) ≤ 57)) with h66 | h66
         ·exact RT hnt (nn 5 (pT :: nn 4 (sk 2 (pF :: pF :: nn 6 (pT :: pF :: .no :: sk 2 (pT :: .no :: sk 2 (pT :: .no :: []))))))) [(57,pB false)] (an3 h57 (an3 h58 (an2 h59 (an h58 (an h59 (an h58 (an3 ff (an2 h65 (an ff (an h65 (an ff (an3 h66 (an3 tt tv))))))))))))) (by kernel_rfl) (.cons rfl (.of_eq (by rw [h57,h58,h59,h65,h66]; try rfl)) .nil)
         ·rcases bt ((((Bh p0 (Int.toNat k1)) : Nat) : Int) == 95) with h67 | h67
          ·exact RT hnt (nn 5 (pT :: nn 4 (sk 2 (pF :: pF :: nn 6 (pT :: pF :: nn 3 (pF :: .no :: sk 2 (pT :: .no :: []))))))) [(57,pB false)] (an3 h57 (an3 h58 (an2 h59 (an h58 (an h59 (an h58 (an3 ff (an2 h65 (an ff (an h65 (an ff (an3 h66 (an3 h67 tv))))))))))))) (by kernel_rfl) (.cons rfl (.of_eq (by rw [h57,h58,h59,h65,h66,h67]; try rfl)) .nil)
          ·exact RT hnt (nn 5 (pT :: nn 4 (sk 2 (pF :: pF :: nn 6 (pT :: pF :: nn 3 (pF :: nn 3 (pF :: .no :: []))))))) [(Aco p0 k1)] (an3 h57 (an3 h58 (an2 h59 (an h58 (an h59 (an h58 (an3 ff (an2 h65 (an ff (an h65 (an ff (an3 h66 (an3 h67 tv))))))))))))) (by kernel_rfl) (.cons rfl (.of_eq (by rw [h57,h58,h59,h65,h66,h67]; try rfl)) .nil)
        ·rcases bt ((((Bh p0 (Int.toNat k1)) : Nat) : Int) == 95) with h68 | h68
         ·exact RT hnt (nn 5 (pT :: nn 4 (sk 2 (pF :: pF :: nn 4 (sk 2 (pF :: pF :: nn 3 (pF :: .no :: sk 2 (pT :: .no :: [])))))))) [(57,pB false)] (an3 h57 (an3 h58 (an2 h59 (an h58 (an h59 (an h58 (an3 ff (an2 h65 (an ff (an h65 (an4 ff (an3 h68 tv)))))))))))) (by kernel_rfl) (.cons rfl (.of_eq (by rw [h57,h58,h59,h65,h68]; try rfl)) .nil)
         ·exact RT hnt (nn 5 (pT :: nn 4 (sk 2 (pF :: pF :: nn 4 (sk 2 (pF :: pF :: nn 3 (pF :: nn 3 (pF :: .no :: [])))))))) [(Aco p0 k1)] (an3 h57 (an3 h58 (an2 h59 (an h58 (an h59 (an h58 (an3 ff (an2 h65 (an ff (an h65 (an4 ff (an3 h68 tv)))))))))))) (by kernel_rfl) (.cons rfl (.of_eq (by rw [h57,h58,h59,h65,h68]; try rfl)) .nil)
     ·rcases bt (decide ((((Bh p0 (Int.toNat k1)) : Nat) : Int) ≥ 65)) with h69 | h69
      ·rcases bt (decide ((((Bh p0 (Int.toNat k1)) : Nat) : Int) ≤ 90)) with h70 | h70
       ·exact RT hnt (nn 3 (sk 2 (pF :: nn 6 (pT :: pF :: .no :: sk 6 (pT :: .no :: sk 2 (pT :: .no :: sk 2 (pT :: .no :: []))))))) [(57,pB false)] (an3 h57 (an3 ff (an2 h69 (an ff (an h69 (an ff (an5 h70 (an6 tt tv)))))))) (by kernel_rfl) (.cons rfl (.of_eq (by rw [h57,h69,h70]; try rfl)) .nil)
       ·rcases bt (decide ((((Bh p0 (Int.toNat k1)) : Nat) : Int) ≥ 48)) with h71 | h71
        ·rcases bt (decide ((((Bh p0 (Int.toNat k1)) : Nat) : Int) ≤ 57)) with h72 | h72
         ·exact RT hnt (nn 3 (sk 2 (pF :: nn 6 (pT :: pF :: nn 6 (pT :: pF :: .no :: sk 2 (pT :: .no :: sk 2 (pT :: .no :: []))))))) [(57,pB false)] (an3 h57 (an3 ff (an2 h69 (an ff (an h69 (an ff (an3 h70 (an2 h71 (an h70 (an h71 (an h70 (an3 h72 (an3 tt tv))))))))))))) (by kernel_rfl) (.cons rfl (.of_eq (by rw [h57,h69,h70,h71,h72]; try rfl)) .nil)
         ·rcases bt ((((Bh p0 (Int.toNat k1)) : Nat) : Int) == 95) with h73 | h73
          ·exact RT hnt (nn 3 (sk 2 (pF :: nn 6 (pT :: pF :: nn 6 (pT :: pF :: nn 3 (pF :: .no :: sk 2 (pT :: .no :: []))))))) [(57,pB false)] (an3 h57 (an3 ff (an2 h69 (an ff (an h69 (an ff (an3 h70 (an2 h71 (an h70 (an h71 (an h70 (an3 h72 (an3 h73 tv))))))))))))) (by kernel_rfl) (.cons rfl (.of_eq (by rw [h57,h69,h70,h71,h72,h73]; try rfl)) .nil)
          ·exact RT hnt (nn 3 (sk 2 (pF :: nn 6 (pT :: pF :: nn 6 (pT :: pF :: nn 3 (pF :: nn 3 (pF :: .no :: []))))))) [(Aco p0 k1)] (an3 h57 (an3 ff (an2 h69 (an ff (an h69 (an ff (an3 h70 (an2 h71 (an h70 (an h71 (an h70 (an3 h72 (an3 h73 tv))))))))))))) (by kernel_rfl) (.cons rfl (.of_eq (by rw [h57,h69,h70,h71,h72,h73]; try rfl)) .nil)
        ·rcases bt ((((Bh p0 (Int.toNat k1)) : Nat) : Int) == 95) with h74 | h74
         ·exact RT hnt (nn 3 (sk 2 (pF :: nn 6 (pT :: pF :: nn 4 (sk 2 (pF :: pF :: nn 3 (pF :: .no :: sk 2 (pT :: .no :: [])))))))) [(57,pB false)] (an3 h57 (an3 ff (an2 h69 (an ff (an h69 (an ff (an3 h70 (an2 h71 (an h70 (an h71 (an h70 (an3 ff (an3 h74 tv))))))))))))) (by kernel_rfl) (.cons rfl (.of_eq (by rw [h57,h69,h70,h71,h74]; try rfl)) .nil)
         ·exact RT hnt (nn 3 (sk 2 (pF :: nn 6 (pT :: pF :: nn 4 (sk 2 (pF :: pF :: nn 3 (pF :: nn 3 (pF :: .no :: [])))))))) [(Aco p0 k1)] (an3 h57 (an3 ff (an2 h69 (an ff (an h69 (an ff (an3 h70 (an2 h71 (an h70 (an h71 (an h70 (an3 ff (an3 h74 tv))))))))))))) (by kernel_rfl) (.cons rfl (.of_eq (by rw [h57,h69,h70,h71,h74]; try rfl)) .nil)
      ·rcases bt (decide ((((Bh p0 (Int.toNat k1)) : Nat) : Int) ≥ 48)) with h75 | h75
       ·rcases bt (decide ((((Bh p0 (Int.toNat k1)) : Nat) : Int) ≤ 57)) with h76 | h76
        ·exact RT hnt (nn 3 (sk 2 (pF :: nn 4 (sk 2 (pF :: pF :: nn 6 (pT :: pF :: .no :: sk 2 (pT :: .no :: sk 2 (pT :: .no :: [])))))))) [(57,pB false)] (an3 h57 (an3 ff (an2 h69 (an ff (an h69 (an4 ff (an2 h75 (an ff (an h75 (an ff (an3 h76 (an3 tt tv)))))))))))) (by kernel_rfl) (.cons rfl (.of_eq (by rw [h57,h69,h75,h76]; try rfl)) .nil)
        ·rcases bt ((((Bh p0 (Int.toNat k1)) : Nat) : Int) == 95) with h77 | h77
         ·exact RT hnt (nn 3 (sk 2 (pF :: nn 4 (sk 2 (pF :: pF :: nn 6 (pT :: pF :: nn 3 (pF :: .no :: sk 2 (pT :: .no :: [])))))))) [(57,pB false)] (an3 h57 (an3 ff (an2 h69 (an ff (an h69 (an4 ff (an2 h75 (an ff (an h75 (an ff (an3 h76 (an3 h77 tv)))))))))))) (by kernel_rfl) (.cons rfl (.of_eq (by rw [h57,h69,h75,h76,h77]; try rfl)) .nil)
         ·exact RT hnt (nn 3 (sk 2 (pF :: nn 4 (sk 2 (pF :: pF :: nn 6 (pT :: pF :: nn 3 (pF :: nn 3 (pF :: .no :: [])))))))) [(Aco p0 k1)] (an3 h57 (an3 ff (an2 h69 (an ff (an h69 (an4 ff (an2 h75 (an ff (an h75 (an ff (an3 h76 (an3 h77 tv)))))))))))) (by kernel_rfl) (.cons rfl (.of_eq (by rw [h57,h69,h75,h76,h77]; try rfl)) .nil)
       ·rcases bt ((((Bh p0 (Int.toNat k1)) : Nat) : Int) == 95) with h78 | h78
        ·exact RT hnt (nn 3 (sk 2 (pF :: nn 4 (sk 2 (pF :: pF :: nn 4 (sk 2 (pF :: pF :: nn 3 (pF :: .no :: sk 2 (pT :: .no :: []))))))))) [(57,pB false)] (an3 h57 (an3 ff (an2 h69 (an ff (an h69 (an4 ff (an2 h75 (an ff (an h75 (an4 ff (an3 h78 tv))))))))))) (by kernel_rfl) (.cons rfl (.of_eq (by rw [h57,h69,h75,h78]; try rfl)) .nil)
        ·exact RT hnt (nn 3 (sk 2 (pF :: nn 4 (sk 2 (pF :: pF :: nn 4 (sk 2 (pF :: pF :: nn 3 (pF :: nn 3 (pF :: .no :: []))))))))) [(Aco p0 k1)] (an3 h57 (an3 ff (an2 h69 (an ff (an h69 (an4 ff (an2 h75 (an ff (an h75 (an4 ff (an3 h78 tv))))))))))) (by kernel_rfl) (.cons rfl (.of_eq (by rw [h57,h69,h75,h78]; try rfl)) .nil)
    ·refine Ah hm ?_ ?_
     ·intro h79 hm
      refine Sq (RK hnt (.no :: []) [(2,pB false)] [] tv ?_)
      obtain rfl := sj hm
      exact DW.ret (Ai [] [] (pB false))
     ·intro h79 hm
      refine Sk ?_
      refine DW.done ?_
      show DW _ _ _ _ _
      refine RK hnt (nn 3 []) [(0,pS p0),(3,pI (w64 (k1 + 1)))] [] tv ?_
      exact jD () ⟨hlt1,hm⟩ (Conv.tp [(3,pI (w64 (k1 + 1)))] [] (by kernel_rfl) (.cons rfl (.of_eq (congrArg pI (Rr (lo := 0) (hi := ((p0.size : Nat) : Int)) (by omega) hk1 hlt1 (by omega)))) .nil) .nil)
   ·intro h55
    have hge1 : ¬ k1 < ((p0.size : Nat) : Int) := by have := of_decide_eq_false h55; omega
    have hm := he1 hge1
    unfold AeE at hm
    refine DW.exit ?_
    refine Ap ?_
    refine Au ?_
    refine An ?_
    show DW _ _ _ _ _
    refine Sq (RK hnt (.no :: []) [(2,pB true)] [] tv ?_)
    obtain rfl := sj hm
    exact DW.ret (Ai [] [] (pB true))
 ·rcases bt (((p0.size : Nat) : Int) == 0) with h1 | h1
  ·replace hm := Ay h1 hm
   refine RK hnt (nn 4 (sk 3 (pT :: .no :: sk 3 (pT :: [])))) [(0,pS p0),(17,pB true)] [] (an4 h1 (an4 tt tv)) ?_
   exact jD true hm .refl
  ·replace hm := Az h1 hm
   rcases bt (decide (((p0.size : Nat) : Int) > 32)) with h2 | h2
   ·replace hm := Ay h2 hm
    refine RK hnt (nn 7 (pF :: .no :: sk 3 (pT :: []))) [(0,pS p0),(17,pB true)] [] (an4 h1 (an4 h2 tv)) ?_
    exact jD true hm .refl
   ·replace hm := Az h2 hm
    obtain ⟨g3,hm⟩ := go1 hm
    refine RK hnt (nn 7 (pF :: nn 4 (pF :: []))) [(0,pS p0),(17,pB ((((Bh p0 0) : Nat) : Int) == 45))] [] (an4 h1 (an2 h2 (an (nn0 0) (an (ltc g3) (an2 h2 tv))))) ?_
    exact jD ((((Bh p0 0) : Nat) : Int) == 45) hm .refl
abbrev o12 (ks : List Nat) (b : Bool) (RES : Bool) : Orc := .call 118 ks b (pB RES) [] []

abbrev Dz (p0 : Ae) (p1 : Int) := (p0.nodes.getD (Int.toNat p1) Ar)
abbrev Afw (p0 : Ae) (p1 : Int) : Nat × Obj := (1040,bx (pm (Ak (Dz p0 p1))))
abbrev AfB (p0 : Ae) : Nat × Obj := (1016,bx (pm (Aj p0)))
abbrev c11e4 (p0 : Ae) (k1 : Int) := (p0.nodes.getD (Int.toNat k1) Ar)
theorem AiO (p0 : Ae) (p1 : Int) (RES : Bool) (hm : Aaa p0 p1 = some RES) : Spec Tryz.prog 115 [.p (.agg (Aj p0)),pI p1] [] (pB RES) [] [] := by
 unfold Aaa at hm
 refine SO Tryz.func115 rfl rfl [(0,.p (.agg (Aj p0))),(1,pI p1)] [] ?_
 intro cx hnt
 refine Sq (RK hnt (nn 2 []) [(1,pI p1),(2,rr 1016)] [(AfB p0)] tv ?_)
 obtain ⟨g1,hm⟩ := go1 hm
 refine Sq (RD hnt (nn 7 []) [] [(5,rr 1040)] [] [(Afw p0 p1)] (an g1.1 (an g1.2 tv)) ?_)
 refine Sq (Sq (DW.regJ (sl2 := [(1,pI p1),(2,rr 1016),(5,rr 1040),(40,pB (((((((Dz p0 p1).kind != 0) && ((Dz p0 p1).kind != 1)) || (decide ((Dz p0 p1).control < 0))) || (decide ((Dz p0 p1).control > 31))) || (decide ((Dz p0 p1).owner < 0))) || (decide ((Dz p0 p1).owner > 1048576))))]) (ob2 := [(AfB p0),(Afw p0 p1)]) ?_ ?_))
 ·rcases bt ((Dz p0 p1).kind != 0) with h2 | h2
  ·rcases bt ((Dz p0 p1).kind != 1) with h3 | h3
   ·exact RT hnt (nn 7 (pT :: .no :: sk 3 (pT :: .no :: sk 3 (pT :: .no :: sk 3 (pT :: .no :: sk 3 (pT :: [])))))) [(40,pB true)] (an4 h2 (an4 h3 (an6 tt (an6 tt tv)))) (by kernel_rfl) (.cons rfl (.of_eq (by rw [h2,h3]; try rfl)) .nil)
   ·rcases bt (decide ((Dz p0 p1).control < 0)) with h4 | h4
    ·exact RT hnt (nn 7 (pT :: nn 4 (pF :: .no :: sk 3 (pT :: .no :: sk 3 (pT :: .no :: sk 3 (pT :: [])))))) [(40,pB true)] (an4 h2 (an4 h3 (an4 h4 (an2 tt (an6 tt tv))))) (by kernel_rfl) (.cons rfl (.of_eq (by rw [h2,h3,h4]; try rfl)) .nil)
    ·rcases bt (decide ((Dz p0 p1).control > 31)) with h5 | h5
     ·exact RT hnt (nn 7 (pT :: nn 4 (pF :: nn 4 (pF :: .no :: sk 3 (pT :: .no :: sk 3 (pT :: [])))))) [(40,pB true)] (an4 h2 (an4 h3 (an4 h4 (an4 h5 (an4 tt tv))))) (by kernel_rfl) (.cons rfl (.of_eq (by rw [h2,h3,h4,h5]; try rfl)) .nil)
     ·rcases bt (decide ((Dz p0 p1).owner < 0)) with h6 | h6
      ·exact RT hnt (nn 7 (pT :: nn 4 (pF :: nn 4 (pF :: nn 4 (pF :: .no :: sk 3 (pT :: [])))))) [(40,pB true)] (an4 h2 (an4 h3 (an4 h4 (an4 h5 (an4 h6 tv))))) (by kernel_rfl) (.cons rfl (.of_eq (by rw [h2,h3,h4,h5,h6]; try rfl)) .nil)
      ·exact RT hnt (nn 7 (pT :: nn 4 (pF :: nn 4 (pF :: nn 4 (pF :: nn 4 (pF :: [])))))) [(40,pB (decide ((Dz p0 p1).owner > 1048576)))] (an4 h2 (an4 h3 (an4 h4 (an4 h5 (an4 h6 tv))))) (by kernel_rfl) (.cons rfl (.of_eq (by rw [h2,h3,h4,h5,h6]; try rfl)) .nil)
  ·rcases bt (decide ((Dz p0 p1).control < 0)) with h7 | h7
   ·exact RT hnt (nn 4 (sk 3 (pF :: nn 4 (pF :: .no :: sk 3 (pT :: .no :: sk 3 (pT :: .no :: sk 3 (pT :: []))))))) [(40,pB true)] (an4 h2 (an4 ff (an4 h7 (an2 tt (an6 tt tv))))) (by kernel_rfl) (.cons rfl (.of_eq (by rw [h2,h7]; try rfl)) .nil)
   ·rcases bt (decide ((Dz p0 p1).control > 31)) with h8 | h8
    ·exact RT hnt (nn 4 (sk 3 (pF :: nn 4 (pF :: nn 4 (pF :: .no :: sk 3 (pT :: .no :: sk 3 (pT :: []))))))) [(40,pB true)] (an4 h2 (an4 ff (an4 h7 (an4 h8 (an4 tt tv))))) (by kernel_rfl) (.cons rfl (.of_eq (by rw [h2,h7,h8]; try rfl)) .nil)
    ·rcases bt (decide ((Dz p0 p1).owner < 0)) with h9 | h9
     ·exact RT hnt (nn 4 (sk 3 (pF :: nn 4 (pF :: nn 4 (pF :: nn 4 (pF :: .no :: sk 3 (pT :: []))))))) [(40,pB true)] (an4 h2 (an4 ff (an4 h7 (an4 h8 (an4 h9 tv))))) (by kernel_rfl) (.cons rfl (.of_eq (by rw [h2,h7,h8,h9]; try rfl)) .nil)
     ·exact RT hnt (nn 4 (sk 3 (pF :: nn 4 (pF :: nn 4 (pF :: nn 4 (pF :: nn 4 (pF :: []))))))) [(40,pB (decide ((Dz p0 p1).owner > 1048576)))] (an4 h2 (an4 ff (an4 h7 (an4 h8 (an4 h9 tv))))) (by kernel_rfl) (.cons rfl (.of_eq (by rw [h2,h7,h8,h9]; try rfl)) .nil)
 ·refine Ah hm ?_ ?_
  ·intro h10 hm
   refine Sq (RK hnt (.no :: []) [(4,pB false)] [] tv ?_)
   obtain rfl := sj hm
   exact DW.ret (Ai [] [] (pB false))
  ·intro h10 hm
   refine Sk ?_
   refine Sq (Sq (RD hnt (nn 2 []) [40] [(42,pB (p1 == 0))] [] [] tv ?_))
   refine Ah hm ?_ ?_
   ·intro h11 hm
    refine Sq (DW.regJ (sl2 := [(4,pB (((((Dz p0 p1).id == 1) && ((Dz p0 p1).parent == 0)) && (Co (Dz p0 p1).name ByteArray.empty)) && ((Dz p0 p1).kind == 0)))]) (ob2 := []) ?_ ?_)
    ·rcases bt ((Dz p0 p1).id == 1) with h12 | h12
     ·rcases bt ((Dz p0 p1).parent == 0) with h13 | h13
      ·rcases bt (Co (Dz p0 p1).name ByteArray.empty) with h14 | h14
       ·exact RT hnt (nn 7 (pT :: nn 4 (pT :: nn 4 (pT :: .no :: [])))) [(4,pB ((Dz p0 p1).kind == 0))] (an4 h12 (an4 h13 (an4 h14 tv))) (by kernel_rfl) (.cons rfl (.of_eq (by rw [h12,h13,h14]; try rfl)) .nil)
       ·exact RT hnt (nn 7 (pT :: nn 4 (pT :: .no :: sk 3 (pF :: .no :: [])))) [(4,pB false)] (an4 h12 (an4 h13 (an4 h14 tv))) (by kernel_rfl) (.cons rfl (.of_eq (by rw [h12,h13,h14]; try rfl)) .nil)
      ·exact RT hnt (nn 7 (pT :: .no :: sk 3 (pF :: .no :: sk 3 (pF :: .no :: [])))) [(4,pB false)] (an4 h12 (an4 h13 (an4 ff tv))) (by kernel_rfl) (.cons rfl (.of_eq (by rw [h12,h13]; try rfl)) .nil)
     ·exact RT hnt (nn 4 (sk 3 (pF :: .no :: sk 3 (pF :: .no :: sk 3 (pF :: .no :: []))))) [(4,pB false)] (an4 h12 (an2 ff (an6 ff tv))) (by kernel_rfl) (.cons rfl (.of_eq (by rw [h12]; try rfl)) .nil)
    ·refine DW.ret ?_
     obtain rfl := sj hm
     exact Ai [] [] (pB (((((Dz p0 p1).id == 1) && ((Dz p0 p1).parent == 0)) && (Co (Dz p0 p1).name ByteArray.empty)) && ((Dz p0 p1).kind == 0)))
   ·intro h11 hm
    refine Sk ?_
    obtain ⟨g15,hm⟩ := go1 hm
    refine Sq (Sq ?_)
    refine Jn (ι := Bool) (fun (y1 : Bool) => Al [(1,pI p1),(2,rr 1016),(5,rr 1040),(76,pB y1)] [(AfB p0),(Afw p0 p1)]) (fun y1 => (Va p0 p1) y1 = some RES) ?_ ?_
    ·intro y1 hm
     unfold Va at hm
     refine Ah hm ?_ ?_
     ·intro h18 hm
      refine Sq (RK hnt (.no :: []) [(4,pB false)] [] tv ?_)
      obtain rfl := sj hm
      exact DW.ret (Ai [] [] (pB false))
     ·intro h18 hm
      refine Sk ?_
      refine Sq (RD hnt (.no :: []) [76] [(6,pB false)] [] [] tv ?_)
      refine Sq (Sq (RD hnt (.no :: []) [] [(7,pI 0)] [] [] tv ?_))
      refine Bk ?_
      obtain ⟨hc1,hm⟩ := go1 hm
      refine DW.forO (fun (k1 : Int) (s1 : Bool) => Al [(1,pI p1),(2,rr 1016),(5,rr 1040),(6,pB s1),(7,pI k1)] [(AfB p0),(Afw p0 p1)]) (lo := 0) (hi := p1) hm Conv.eqK ?_
      intro k1 s1 n1 hk1 hs1 he1
      refine Sq (Sq (RD hnt (nn 3 []) [] [(79,pB (decide (k1 < p1)))] [] [] tv ?_))
      refine Bx (decide (k1 < p1)) ?_ ?_
      ·intro h32
       have hlt1 : k1 < p1 := by have := of_decide_eq_true h32; omega
       have hm := hs1 hlt1
       unfold AcQ at hm
       refine Sk ?_
       refine Sq (Bk ?_)
       refine Sq ?_
       refine Jn (ι := Bool) (fun (y5 : Bool) => Al [(1,pI p1),(2,rr 1016),(5,rr 1040),(6,pB y5),(7,pI k1)] [(AfB p0),(Afw p0 p1)]) (fun y5 => (Ru p0 p1 k1 n1) y5 = some RES) ?_ ?_
       ·intro y5 hm
        unfold Ru at hm
        obtain ⟨g35,hm⟩ := go1 hm
        refine Sq ?_
        refine Jn (ι := Bool) (fun (y6 : Bool) => Al [(1,pI p1),(2,rr 1016),(5,rr 1040),(6,pB y5),(7,pI k1),(113,pB y6)] [(AfB p0),(Afw p0 p1)]) (fun y6 => (Rt n1 y5) y6 = some RES) ?_ ?_
        ·intro y6 hm
         unfold Rt at hm
         refine Ah hm ?_ ?_
         ·intro h38 hm
          refine Sq (RK hnt (.no :: []) [(4,pB false)] [] tv ?_)
          obtain rfl := sj hm
          exact DW.ret (Ai [] [] (pB false))
         ·intro h38 hm
          refine Sk ?_
          refine DW.done ?_
          show DW _ _ _ _ _
          refine RD hnt (nn 3 []) [113] [(7,pI (w64 (k1 + 1)))] [] [] tv ?_
          exact jD y5 ⟨hlt1,hm⟩ (Conv.tp [(7,pI (w64 (k1 + 1)))] [] (by kernel_rfl) (.cons rfl (.of_eq (congrArg pI (Rr (lo := 0) (hi := p1) (by omega) hk1 hlt1 (by omega)))) .nil) .nil)
        ·rcases bt ((c11e4 p0 k1).parent == (Dz p0 p1).parent) with h36 | h36
         ·replace hm := Ay h36 hm
          obtain ⟨g37,hm⟩ := go1 hm
          refine RD hnt (nn 19 (pT :: [])) [] [(113,pB (Co (c11e4 p0 k1).name (Dz p0 p1).name))] [] [] (an g35.1 (an g35.2 (an4 h36 (an g37.1 (an g37.2 (an6 h36 tv)))))) ?_
          exact jD (Co (c11e4 p0 k1).name (Dz p0 p1).name) hm Conv.eqK
         ·replace hm := Az h36 hm
          refine RD hnt (nn 10 (sk 9 (pF :: []))) [] [(113,pB false)] [] [] (an g35.1 (an g35.2 (an4 h36 (an6 h36 tv)))) ?_
          exact jD false hm Conv.eqK
       ·rcases bt s1 with h33 | h33
        ·replace hm := Ay h33 hm
         refine RD hnt (nn 2 (sk 9 (pT :: .no :: []))) [79] [(6,pB true)] [] [] (an4 h33 (an6 h33 tv)) ?_
         exact jD true hm Conv.eqK
        ·replace hm := Az h33 hm
         obtain ⟨g34,hm⟩ := go1 hm
         refine RD hnt (nn 11 (pF :: .no :: [])) [79] [(6,pB ((c11e4 p0 k1).id == (Dz p0 p1).parent))] [] [] (an4 h33 (an g34.1 (an g34.2 (an6 h33 tv)))) ?_
         exact jD ((c11e4 p0 k1).id == (Dz p0 p1).parent) hm Conv.eqK
      ·intro h32
       have hge1 : ¬ k1 < p1 := by have := of_decide_eq_false h32; omega
       have hm := he1 hge1
       unfold AfR at hm
       refine DW.exit ?_
       refine Ap ?_
       refine Au ?_
       refine An ?_
       show DW _ _ _ _ _
       refine Sq (RK hnt (nn 2 []) [(4,pB s1)] [] tv ?_)
       obtain rfl := sj hm
       exact DW.ret (Ai [] [] (pB s1))
    ·rcases bt (decide ((Dz p0 p1).id ≤ (p0.nodes.getD (Int.toNat (w64 (p1 - 1))) Ar).id)) with h16 | h16
     ·replace hm := Ay h16 hm
      refine RD hnt (nn 11 (sk 4 (pT :: []))) [42] [(76,pB true)] [] [] (an g15.1 (an g15.2 (an5 h16 tv))) ?_
      exact jD true hm Conv.eqK
     ·replace hm := Az h16 hm
      obtain ⟨r17,hr17,hm⟩ := bo hm
      refine RD hnt (nn 13 (o12 [] true r17 :: .no :: pF :: [])) [42] [(76,pB (!r17))] [] [] (an g15.1 (an g15.2 (an3 h16 (an (Adb (Dz p0 p1).name r17 hr17) (an2 h16 tv))))) ?_
      exact jD (!r17) hm Conv.eqK
abbrev o11 (ks : List Nat) (b : Bool) (RES : Bool) : Orc := .call 115 ks b (pB RES) [] []

theorem AfW (p0 : Ae) (p1 : Int) (RES : List Int) (hm : AaW p0 p1 = some RES) : Spec Tryz.prog 116 [.p (.agg (Aj p0)),pI p1] [] (ow 0 RES.length) [] [roI RES] := by
 unfold AaW at hm
 refine SO Tryz.func116 rfl rfl [(0,.p (.agg (Aj p0))),(1,pI p1)] [] ?_
 intro cx hnt
 refine Sq (RK hnt (nn 2 []) [(1,pI p1),(2,rr 1016)] [(1016,bx (pm (Aj p0)))] tv ?_)
 refine Sq (RD hnt (.no :: []) [] [(5,.p (.sl .nil 0 0 (fun _ => [])))] [] [] tv ?_)
 refine Sq (Sq (RD hnt (nn 5 []) [] [(6,pI (w64 (((p0.nodes.length : Nat) : Int) - 1)))] [] [] tv ?_))
 refine Bk ?_
 refine DW.whileO (fun (s1 : (List Int) × Int × Int) => Al [(1,pI s1.2.1),(2,rr 1016),(5,ow 1208 s1.1.length),(6,pI s1.2.2)] [(1016,bx (pm (Aj p0))),(1208,ob0 (roI s1.1))]) hm (Conv.ads [(.s 5,1208,1,elems Cl 0 [])]) ?_
 intro s1 n1 hm
 unfold Aew at hm
 refine Sq (Sq (RD hnt (nn 2 []) [] [(12,pB (decide (s1.2.2 ≥ 0)))] [] [] tv ?_))
 refine Ah hm ?_ ?_
 ·intro h5 hm
  refine Sk ?_
  refine Sq ?_
  refine Jn (ι := (List Int) × Int) (fun (y2 : (List Int) × Int) => Al [(1,pI y2.2),(2,rr 1016),(5,ow 1208 y2.1.length),(6,pI s1.2.2)] [(1016,bx (pm (Aj p0))),(1208,ob0 (roI y2.1))]) (fun y2 => (Wc s1 n1) y2 = some RES) ?_ ?_
  ·intro y2 hm
   unfold Wc at hm
   refine RD hnt (nn 3 []) [] [(6,pI (w64 (s1.2.2 - 1)))] [] [] tv ?_
   exact jD (y2.1,y2.2,(w64 (s1.2.2 - 1))) hm Conv.eqK
  ·refine Bk ?_
   obtain ⟨g6,hm⟩ := go1 hm
   refine Sq (RD hnt (nn 8 []) [12] [(22,pB ((p0.nodes.getD (Int.toNat s1.2.2) Ar).id == s1.2.1))] [] [] (an g6.1 (an g6.2 tv)) ?_)
   refine Ah hm ?_ ?_
   ·intro h7 hm
    obtain ⟨g8,hm⟩ := go1 hm
    refine Sq (RN hnt (nn 5 []) [(2,rr 1016),(5,ow 1208 (s1.1 ++ [s1.2.1]).length),(6,pI s1.2.2)] [(1016,bx (pm (Aj p0))),(1208,ob0 (roI (s1.1 ++ [s1.2.1])))] [(5,ow 1208 (s1.1.length + 1))] [(1208,.row 1 (s1.1.length + 1) (Ef s1.1.length (elI s1.1) (cut 1 [vi s1.2.1])))] (an (by omega : (s1.1.length + 1) * 8 ≤ 140737488355328) tv) (by kernel_rfl) (.cons rfl (MLe.ownLen (enc := Cl) (d := 0) (f := (Ef s1.1.length (elI s1.1) (cut 1 [vi s1.2.1]))) (RowIs.cat RowIs.elems (RowIs.lit (enc := Cl) (d := 0) (n := 1) (f := (cut 1 [vi s1.2.1])) [s1.2.1] rfl (fun | 0,_ => rfl | n + 1,h => absurd h (by omega))))) .nil) (.cons rfl (BLe.typed (RowIs.cat RowIs.elems (RowIs.lit (enc := Cl) (d := 0) (n := 1) (f := (cut 1 [vi s1.2.1])) [s1.2.1] rfl (fun | 0,_ => rfl | n + 1,h => absurd h (by omega))))) .nil) ?_)
    obtain ⟨g9,hm⟩ := go1 hm
    refine RD hnt (nn 7 []) [] [(1,pI (p0.nodes.getD (Int.toNat s1.2.2) Ar).parent)] [] [] (an g9.1 (an g9.2 tv)) ?_
    exact bD ((s1.1 ++ [s1.2.1]),(p0.nodes.getD (Int.toNat s1.2.2) Ar).parent) hm Conv.eqK
   ·intro h7 hm
    refine Sk ?_
    exact bD (s1.1,s1.2.1) hm Conv.t0
 ·intro h5 hm
  refine DW.exit ?_
  refine Ap ?_
  refine Au ?_
  refine An ?_
  show DW _ _ _ _ _
  refine Sq (RK hnt (nn 2 []) [(4,ow 1208 s1.1.length)] [(1208,ob0 (roI s1.1))] tv ?_)
  obtain rfl := sj hm
  exact DW.ret (Ai [roI s1.1] [1208] (ow 0 s1.1.length))
abbrev o13 (ks : List Nat) (b : Bool) (RES : List Int) : Orc := .call 116 ks b (ow 0 RES.length) [] [roI RES]

abbrev c10e1 (p0 : Ae) : Nat × MV := (3,pI ((p0.nodes.length : Nat) : Int))
theorem Fx (p0 : Ae) (RES : Bool) (hm : Km p0 = some RES) : Spec Tryz.prog 69 [.p (.agg (Aj p0))] [] (pB RES) [] [] := by
 unfold Km at hm
 refine SO Tryz.func69 rfl rfl [(0,.p (.agg (Aj p0)))] [] ?_
 intro cx hnt
 refine Sq (RK hnt (nn 2 []) [(1,rr 1008)] [(1008,bx (pm (Aj p0)))] tv ?_)
 refine Sq (RD hnt (nn 4 []) [] [(c10e1 p0)] [] [] tv ?_)
 refine Sq (Sq (DW.regJ (sl2 := [(1,rr 1008),(c10e1 p0),(14,pB ((decide (((p0.nodes.length : Nat) : Int) < 1)) || (decide (((p0.nodes.length : Nat) : Int) > 64))))]) (ob2 := [(1008,bx (pm (Aj p0)))]) ?_ ?_))
 ·rcases bt (decide (((p0.nodes.length : Nat) : Int) < 1)) with h1 | h1
  ·exact RT hnt (nn 3 (sk 2 (pT :: []))) [(14,pB true)] (an3 h1 tv) (by kernel_rfl) (.cons rfl (.of_eq (by rw [h1]; try rfl)) .nil)
  ·exact RT hnt (nn 5 (pF :: [])) [(14,pB (decide (((p0.nodes.length : Nat) : Int) > 64)))] (an3 h1 tv) (by kernel_rfl) (.cons rfl (.of_eq (by rw [h1]; try rfl)) .nil)
 ·refine Ah hm ?_ ?_
  ·intro h2 hm
   refine Sq (RK hnt (.no :: []) [(2,pB false)] [] tv ?_)
   obtain rfl := sj hm
   exact DW.ret (Ai [] [] (pB false))
  ·intro h2 hm
   refine Sk ?_
   refine Sq (Sq (RD hnt (.no :: []) [14] [(4,pI 0)] [] [] tv ?_))
   refine Bk ?_
   obtain ⟨hc1,hm⟩ := go1 hm
   refine DW.rangeO (fun (k1 : Nat) (s1 : Unit) => Al [(1,rr 1008),(c10e1 p0),(4,pI ((k1 : Nat) : Int))] [(1008,bx (pm (Aj p0)))]) Ar hm Conv.eqK ?_
   intro k1 s1 n1 hk1 hs1 he1
   refine Sq (Sq (RD hnt (nn 3 []) [] [(17,pB (decide (((k1 : Nat) : Int) < ((p0.nodes.length : Nat) : Int))))] [] [] tv ?_))
   refine Bx (decide (((k1 : Nat) : Int) < ((p0.nodes.length : Nat) : Int))) ?_ ?_
   ·intro h32
    have hlt1 : k1 < p0.nodes.length := by have := of_decide_eq_true h32; omega
    have hm := hs1 hlt1
    unfold AbN at hm
    refine Sk ?_
    refine Sq (Bk ?_)
    obtain ⟨r33,hr33,hm⟩ := bo hm
    refine Sq (RD hnt (nn 2 (o11 [] true r33 :: .no :: [])) [17] [(23,pB (!r33))] [] [] (an (AiO p0 ((k1 : Nat) : Int) r33 hr33) tv) ?_)
    refine Ah hm ?_ ?_
    ·intro h34 hm
     refine Sq (RK hnt (.no :: []) [(2,pB false)] [] tv ?_)
     obtain rfl := sj hm
     exact DW.ret (Ai [] [] (pB false))
    ·intro h34 hm
     refine Sk ?_
     refine DW.done ?_
     show DW _ _ _ _ _
     refine RD hnt (nn 3 []) [23] [(4,pI (w64 (((k1 : Nat) : Int) + 1)))] [] [] tv ?_
     exact jD () ⟨hlt1,hm⟩ (Conv.tp [(4,pI (w64 (((k1 : Nat) : Int) + 1)))] [] (by kernel_rfl) (.cons rfl (.of_eq (congrArg pI (Bj hlt1 hc1))) .nil) .nil)
   ·intro h32
    have hge1 : ¬ k1 < p0.nodes.length := by have := of_decide_eq_false h32; omega
    have hm := he1 hge1
    unfold AbF at hm
    refine DW.exit ?_
    refine Ap ?_
    refine Au ?_
    refine An ?_
    show DW _ _ _ _ _
    refine Sq (Sq (RD hnt (.no :: []) [4,17] [(5,pI 0)] [] [] tv ?_))
    refine Bk ?_
    obtain ⟨hc4,hm⟩ := go1 hm
    refine DW.rangeO (fun (k4 : Nat) (s4 : Unit) => Al [(1,rr 1008),(c10e1 p0),(5,pI ((k4 : Nat) : Int))] [(1008,bx (pm (Aj p0)))]) Ar hm Conv.eqK ?_
    intro k4 s4 n4 hk4 hs4 he4
    refine Sq (Sq (RD hnt (nn 3 []) [] [(26,pB (decide (((k4 : Nat) : Int) < ((p0.nodes.length : Nat) : Int))))] [] [] tv ?_))
    refine Bx (decide (((k4 : Nat) : Int) < ((p0.nodes.length : Nat) : Int))) ?_ ?_
    ·intro h49
     have hlt4 : k4 < p0.nodes.length := by have := of_decide_eq_true h49; omega
     have hm := hs4 hlt4
     unfold Abd at hm
     refine Sk ?_
     refine Sq (Bk ?_)
     obtain ⟨r50,hr50,hm⟩ := bo hm
     refine Sq (RD hnt (nn 7 (o13 [] true r50 :: nn 2 [])) [26] [(38,pB (decide (((r50.length : Nat) : Int) > 9)))] [] [] (an (nn0 k4) (an (ltc hlt4) (an (AfW p0 (p0.nodes.getD k4 (default : Ag)).id r50 hr50) tv))) ?_)
     refine Ah hm ?_ ?_
     ·intro h51 hm
      refine Sq (RK hnt (.no :: []) [(2,pB false)] [] tv ?_)
      obtain rfl := sj hm
      exact DW.ret (Ai [] [] (pB false))
     ·intro h51 hm
      refine Sk ?_
      refine DW.done ?_
      show DW _ _ _ _ _
      refine RD hnt (nn 3 []) [38] [(5,pI (w64 (((k4 : Nat) : Int) + 1)))] [] [] tv ?_
      exact jD () ⟨hlt4,hm⟩ (Conv.tp [(5,pI (w64 (((k4 : Nat) : Int) + 1)))] [] (by kernel_rfl) (.cons rfl (.of_eq (congrArg pI (Bj hlt4 hc4))) .nil) .nil)
    ·intro h49
     have hge4 : ¬ k4 < p0.nodes.length := by have := of_decide_eq_false h49; omega
     have hm := he4 hge4
     unfold AbH at hm
     refine DW.exit ?_
     refine Ap ?_
     refine Au ?_
     refine An ?_
     show DW _ _ _ _ _
     obtain ⟨g52,hm⟩ := go1 hm
     refine Sq ?_
     refine Jn (ι := Bool) (fun (y7 : Bool) => Al [(2,pB y7)] []) (fun y7 => Sn y7 = some RES) ?_ ?_
     ·intro y7 hm
      unfold Sn at hm
      obtain rfl := sj hm
      exact DW.ret (Ai [] [] (pB y7))
     ·rcases bt (decide (p0.next > (p0.nodes.getD (Int.toNat (w64 (((p0.nodes.length : Nat) : Int) - 1))) Ar).id)) with h53 | h53
      ·replace hm := Ay h53 hm
       refine RK hnt (nn 14 (pT :: .no :: [])) [(2,pB (decide (p0.next ≤ 2147483648)))] [] (an g52.1 (an g52.2 (an4 h53 tv))) ?_
       exact jD (decide (p0.next ≤ 2147483648)) hm .refl
      ·replace hm := Az h53 hm
       refine RK hnt (nn 11 (sk 3 (pF :: .no :: []))) [(2,pB false)] [] (an g52.1 (an g52.2 (an4 h53 tv))) ?_
       exact jD false hm .refl
abbrev o10 (ks : List Nat) (b : Bool) (RES : Bool) : Orc := .call 69 ks b (pB RES) [] []

theorem AgM (p0 : List Am) (p1 : Int) (RES : Am × Bool) (hm : Vk p0 p1 = some RES) : Spec Tryz.prog 117 [.p (Fr p0),pI p1] [] (.p (.tup [.agg (Ao RES.1),vb RES.2])) [] [] := by
 unfold Vk at hm
 refine SO Tryz.func117 rfl rfl [(0,.p (Fr p0)),(1,pI p1)] [] ?_
 intro cx hnt
 refine Sq (RD hnt (nn 2 []) [] [(4,rr 1032)] [] [(1032,bx [pI 0,pI 0,pI 0,pI 0])] tv ?_)
 refine Sq (Sq (RD hnt (.no :: []) [] [(6,pI 0)] [] [] tv ?_))
 refine Bk ?_
 obtain ⟨hc1,hm⟩ := go1 hm
 refine DW.rangeO (fun (k1 : Nat) (s1 : Unit) => Al [(0,.p (Fr p0)),(1,pI p1),(4,rr 1032),(6,pI ((k1 : Nat) : Int))] [(1032,bx [pI 0,pI 0,pI 0,pI 0])]) Ba hm Conv.eqK ?_
 intro k1 s1 n1 hk1 hs1 he1
 refine Sq (Sq (RD hnt (nn 4 []) [] [(10,pB (decide (((k1 : Nat) : Int) < ((p0.length : Nat) : Int))))] [] [] tv ?_))
 refine Bx (decide (((k1 : Nat) : Int) < ((p0.length : Nat) : Int))) ?_ ?_
 ·intro h11
  have hlt1 : k1 < p0.length := by have := of_decide_eq_true h11; omega
  have hm := hs1 hlt1
  unfold Aea at hm
  refine Sk ?_
  refine Sq (Bk ?_)
  refine Sq (RD hnt (nn 7 []) [10] [(19,pB ((p0.getD k1 (default : Am)).id == p1))] [] [] (an (nn0 k1) (an (ltc hlt1) tv)) ?_)
  refine Ah hm ?_ ?_
  ·intro h12 hm
   refine Sq (RK hnt (nn 13 []) [(4,rr 1032),(5,pB ((p0.getD k1 (default : Am)).process == p1))] [(1032,bx (pm (Ao (p0.getD k1 (default : Am)))))] (an (nn0 k1) (an (ltc hlt1) (an (nn0 k1) (an (ltc hlt1) tv)))) ?_)
   obtain rfl := sj hm
   exact DW.ret (Ai [] [] (.p (.tup [.agg (Ao (p0.getD k1 (default : Am))),vb ((p0.getD k1 (default : Am)).process == p1)])))
  ·intro h12 hm
   refine Sk ?_
   refine DW.done ?_
   show DW _ _ _ _ _
   refine RD hnt (nn 3 []) [19] [(6,pI (w64 (((k1 : Nat) : Int) + 1)))] [] [] tv ?_
   exact jD () ⟨hlt1,hm⟩ (Conv.tp [(6,pI (w64 (((k1 : Nat) : Int) + 1)))] [] (by kernel_rfl) (.cons rfl (.of_eq (congrArg pI (Bj hlt1 hc1))) .nil) .nil)
 ·intro h11
  have hge1 : ¬ k1 < p0.length := by have := of_decide_eq_false h11; omega
  have hm := he1 hge1
  unfold AdZ at hm
  refine DW.exit ?_
  refine Ap ?_
  refine Au ?_
  refine An ?_
  show DW _ _ _ _ _
  refine Sq (RD hnt (nn 3 []) [0,1,6,10] [(5,pB false)] [] [] tv ?_)
  obtain rfl := sj hm
  exact DW.ret (Ai [] [] (.p (.tup [.agg [vi 0,vi 0,vi 0,vi 0],vb false])))
abbrev o14 (ks : List Nat) (b : Bool) (RES : Am × Bool) : Orc := .call 117 ks b (.p (.tup [.agg (Ao RES.1),vb RES.2])) [] []

theorem Cg (p0 : Ae) (p1 : Int) (RES : Ag × Bool) (hm : Cn p0 p1 = some RES) : Spec Tryz.prog 24 [.p (.agg (Aj p0)),pI p1] [] (.p (.tup [.agg (Ak RES.1),vb RES.2])) [] [] := by
 unfold Cn at hm
 refine SO Tryz.func24 rfl rfl [(0,.p (.agg (Aj p0))),(1,pI p1)] [] ?_
 intro cx hnt
 refine Sq (RK hnt (nn 3 []) [(1,pI p1),(2,rr 1016),(4,rr 1032)] [(1016,bx (pm (Aj p0))),(1032,bx [pI 0,pI 0,pS ByteArray.empty,pI 0,pI 0,pI 0])] tv ?_)
 obtain ⟨r1,hr1,hm⟩ := bo hm
 refine Sq (Sq (RD hnt (.no :: o10 [] true r1 :: .no :: []) [] [(9,pB (!r1))] [] [] (an (Fx p0 r1 hr1) tv) ?_))
 refine Ah hm ?_ ?_
 ·intro h2 hm
  refine Sq (RD hnt (nn 3 []) [1,2,9] [(5,pB false)] [1016] [] tv ?_)
  obtain rfl := sj hm
  exact DW.ret (Ai [] [] (.p (.tup [.agg [vi 0,vi 0,vs ByteArray.empty,vi 0,vi 0,vi 0],vb false])))
 ·intro h2 hm
  refine Sk ?_
  refine Sq (Sq (RD hnt (.no :: []) [9] [(6,pI 0)] [] [] tv ?_))
  refine Bk ?_
  obtain ⟨hc1,hm⟩ := go1 hm
  refine DW.rangeO (fun (k1 : Nat) (s1 : Unit) => Al [(1,pI p1),(2,rr 1016),(4,rr 1032),(6,pI ((k1 : Nat) : Int))] [(1016,bx (pm (Aj p0))),(1032,bx [pI 0,pI 0,pS ByteArray.empty,pI 0,pI 0,pI 0])]) Ar hm Conv.eqK ?_
  intro k1 s1 n1 hk1 hs1 he1
  refine Sq (Sq (RD hnt (nn 5 []) [] [(15,pB (decide (((k1 : Nat) : Int) < ((p0.nodes.length : Nat) : Int))))] [] [] tv ?_))
  refine Bx (decide (((k1 : Nat) : Int) < ((p0.nodes.length : Nat) : Int))) ?_ ?_
  ·intro h11
   have hlt1 : k1 < p0.nodes.length := by have := of_decide_eq_true h11; omega
   have hm := hs1 hlt1
   unfold Agc at hm
   refine Sk ?_
   refine Sq (Bk ?_)
   refine Sq (RD hnt (nn 8 []) [15] [(25,pB ((p0.nodes.getD k1 (default : Ag)).id == p1))] [] [] (an (nn0 k1) (an (ltc hlt1) tv)) ?_)
   refine Ah hm ?_ ?_
   ·intro h12 hm
    refine Sq (RK hnt (nn 7 []) [(4,rr 1032),(5,pB true)] [(1032,bx (pm (Ak (p0.nodes.getD k1 (default : Ag)))))] (an (nn0 k1) (an (ltc hlt1) tv)) ?_)
    obtain rfl := sj hm
    exact DW.ret (Ai [] [] (.p (.tup [.agg (Ak (p0.nodes.getD k1 (default : Ag))),vb true])))
   ·intro h12 hm
    refine Sk ?_
    refine DW.done ?_
    show DW _ _ _ _ _
    refine RD hnt (nn 3 []) [25] [(6,pI (w64 (((k1 : Nat) : Int) + 1)))] [] [] tv ?_
    exact jD () ⟨hlt1,hm⟩ (Conv.tp [(6,pI (w64 (((k1 : Nat) : Int) + 1)))] [] (by kernel_rfl) (.cons rfl (.of_eq (congrArg pI (Bj hlt1 hc1))) .nil) .nil)
  ·intro h11
   have hge1 : ¬ k1 < p0.nodes.length := by have := of_decide_eq_false h11; omega
   have hm := he1 hge1
   unfold Agj at hm
   refine DW.exit ?_
   refine Ap ?_
   refine Au ?_
   refine An ?_
   show DW _ _ _ _ _
   refine Sq (RD hnt (nn 3 []) [1,2,6,15] [(5,pB false)] [1016] [] tv ?_)
   obtain rfl := sj hm
   exact DW.ret (Ai [] [] (.p (.tup [.agg [vi 0,vi 0,vs ByteArray.empty,vi 0,vi 0,vi 0],vb false])))
abbrev o16 (ks : List Nat) (b : Bool) (RES : Ag × Bool) : Orc := .call 24 ks b (.p (.tup [.agg (Ak RES.1),vb RES.2])) [] []

theorem Df (p0 : Ae) (p1 : Int) (RES : Bool) (hm : Fo p0 p1 = some RES) : Spec Tryz.prog 78 [.p (.agg (Aj p0)),pI p1] [] (pB RES) [] [] := by
 unfold Fo at hm
 refine SO Tryz.func78 rfl rfl [(0,.p (.agg (Aj p0))),(1,pI p1)] [] ?_
 intro cx hnt
 refine Sq (RK hnt (nn 2 []) [(1,pI p1),(2,rr 1016)] [(1016,bx (pm (Aj p0)))] tv ?_)
 obtain ⟨r1,hr1,hm⟩ := bo hm
 refine Sq (RK hnt (nn 2 (o16 [] true r1 :: nn 6 [])) [(6,pB r1.2)] [] (an (Cg p0 p1 r1 hr1) tv) ?_)
 refine Sq (RK hnt (nn 2 []) [(4,pB r1.2)] [] tv ?_)
 obtain rfl := sj hm
 exact DW.ret (Ai [] [] (pB r1.2))
abbrev o15 (ks : List Nat) (b : Bool) (RES : Bool) : Orc := .call 78 ks b (pB RES) [] []

abbrev Nr (p0 : Aa) (k1 : Nat) := (p0.tasks.getD k1 (default : Am))
abbrev c9e2 (p0 : Aa) : Nat × MV := (3,pI ((p0.tasks.length : Nat) : Int))
theorem He (p0 : Aa) (RES : Bool) (hm : Gj p0 = some RES) : Spec Tryz.prog 71 [.p (.agg (Ab p0))] [] (pB RES) [] [] := by
 unfold Gj at hm
 refine SO Tryz.func71 rfl rfl [(0,.p (.agg (Ab p0)))] [] ?_
 intro cx hnt
 refine Sq (RK hnt (nn 2 []) [(1,rr 1008)] [(1008,bx (pm (Ab p0)))] tv ?_)
 refine Sq (RD hnt (nn 4 []) [] [(c9e2 p0)] [] [] tv ?_)
 obtain ⟨r1,hr1,hm⟩ := bo hm
 refine Sq (Sq ?_)
 refine Jn (ι := Bool) (fun (y1 : Bool) => Al [(1,rr 1008),(c9e2 p0),(44,pB y1)] [(1008,bx (pm (Ab p0)))]) (fun y1 => (Jh p0) y1 = some RES) ?_ ?_
 ·intro y1 hm
  unfold Jh at hm
  refine Ah hm ?_ ?_
  ·intro h8 hm
   refine Sq (RK hnt (.no :: []) [(2,pB false)] [] tv ?_)
   obtain rfl := sj hm
   exact DW.ret (Ai [] [] (pB false))
  ·intro h8 hm
   refine Sk ?_
   refine Sq (Sq (RD hnt (.no :: []) [44] [(4,pI 0)] [] [] tv ?_))
   refine Bk ?_
   obtain ⟨hc1,hm⟩ := go1 hm
   refine DW.rangeO (fun (k1 : Nat) (s1 : Unit) => Al [(1,rr 1008),(c9e2 p0),(4,pI ((k1 : Nat) : Int))] [(1008,bx (pm (Ab p0)))]) Ba hm Conv.eqK ?_
   intro k1 s1 n1 hk1 hs1 he1
   refine Sq (Sq (RD hnt (nn 3 []) [] [(47,pB (decide (((k1 : Nat) : Int) < ((p0.tasks.length : Nat) : Int))))] [] [] tv ?_))
   refine Bx (decide (((k1 : Nat) : Int) < ((p0.tasks.length : Nat) : Int))) ?_ ?_
   ·intro h45
    have hlt1 : k1 < p0.tasks.length := by have := of_decide_eq_true h45; omega
    have hm := hs1 hlt1
    unfold Xe at hm
    refine Sk ?_
    refine Sq (Bk ?_)
    refine Sq (RD hnt (nn 7 []) [47] [(5,rr 1040)] [] [(1040,bx (pm (Ao (Nr p0 k1))))] (an (nn0 k1) (an (ltc hlt1) tv)) ?_)
    obtain ⟨r46,hr46,hm⟩ := bo hm
    refine Sq (RD hnt (nn 4 (o14 [] true r46 :: nn 6 [])) [] [(6,rr 1048),(7,pB r46.2)] [] [(1048,bx (pm (Ao r46.1)))] (an (AgM p0.tasks (Nr p0 k1).process r46 hr46) tv) ?_)
    refine Sq ?_
    refine Jn (ι := Bool) (fun (y4 : Bool) => Al [(1,rr 1008),(c9e2 p0),(4,pI ((k1 : Nat) : Int)),(110,pB y4)] [(1008,bx (pm (Ab p0)))]) (fun y4 => (Bz n1) y4 = some RES) ?_ ?_
    ·intro y4 hm
     unfold Bz at hm
     refine Ah hm ?_ ?_
     ·intro h61 hm
      refine Sq (RK hnt (.no :: []) [(2,pB false)] [] tv ?_)
      obtain rfl := sj hm
      exact DW.ret (Ai [] [] (pB false))
     ·intro h61 hm
      refine Sk ?_
      refine DW.done ?_
      show DW _ _ _ _ _
      refine RD hnt (nn 3 []) [110] [(4,pI (w64 (((k1 : Nat) : Int) + 1)))] [] [] tv ?_
      exact jD () ⟨hlt1,hm⟩ (Conv.tp [(4,pI (w64 (((k1 : Nat) : Int) + 1)))] [] (by kernel_rfl) (.cons rfl (.of_eq (congrArg pI (Bj hlt1 hc1))) .nil) .nil)
    ·rcases bt (decide ((Nr p0 k1).id < 1)) with h47 | h47
     ·replace hm := Ay h47 hm
      refine RD hnt (nn 4 (sk 14 (pT :: .no :: sk 6 (pT :: .no :: sk 3 (pT :: .no :: sk 3 (pT :: .no :: sk 2 (pT :: .no :: sk 5 (pT :: [])))))))) [5,6,7] [(110,pB true)] [1040,1048] [] (an5 h47 (an6 tt (an6 tt (an6 tt (an6 tt tv))))) ?_
      exact jD true hm Conv.eqK
     ·replace hm := Az h47 hm
      rcases bt (decide (((k1 : Nat) : Int) > 0)) with h48 | h48
      ·replace hm := Ay h48 hm
       obtain ⟨g49,hm⟩ := go1 hm
       rcases bt (decide ((p0.tasks.getD (Int.toNat (w64 (((k1 : Nat) : Int) - 1))) Ba).id ≥ (Nr p0 k1).id)) with h50 | h50
       ·replace hm := Ay h50 hm
        refine RD hnt (nn 17 (pT :: pF :: .no :: sk 6 (pT :: .no :: sk 3 (pT :: .no :: sk 3 (pT :: .no :: sk 2 (pT :: .no :: sk 5 (pT :: []))))))) [5,6,7] [(110,pB true)] [1040,1048] [] (an3 h47 (an5 h48 (an g49.1 (an g49.2 (an5 h48 (an h47 (an h48 (an h47 (an h50 (an6 h50 (an5 tt (an6 tt (an6 tt tv))))))))))))) ?_
        exact jD true hm Conv.eqK
       ·replace hm := Az h50 hm
        obtain ⟨r51,hr51,hm⟩ := bo hm
        rcases bt (!r51) with h52 | h52
        ·replace hm := Ay h52 hm
         refine RD hnt (nn 17 (pT :: pF :: nn 5 (o15 [] true r51 :: .no :: pF :: .no :: sk 3 (pT :: .no :: sk 3 (pT :: .no :: sk 2 (pT :: .no :: sk 5 (pT :: []))))))) [5,6,7] [(110,pB true)] [1040,1048] [] (an3 h47 (an5 h48 (an g49.1 (an g49.2 (an5 h48 (an h47 (an h48 (an h47 (an5 h50 (an (Df p0.tree (Nr p0 k1).group r51 hr51) (an2 h50 (an4 h52 (an tt (an6 tt (an6 tt tv))))))))))))))) ?_
         exact jD true hm Conv.eqK
        ·replace hm := Az h52 hm
         rcases bt (decide ((Nr p0 k1).user < 0)) with h53 | h53
         ·replace hm := Ay h53 hm
          refine RD hnt (nn 17 (pT :: pF :: nn 5 (o15 [] true r51 :: .no :: pF :: nn 4 (pF :: .no :: sk 3 (pT :: .no :: sk 2 (pT :: .no :: sk 5 (pT :: []))))))) [5,6,7] [(110,pB true)] [1040,1048] [] (an3 h47 (an5 h48 (an g49.1 (an g49.2 (an5 h48 (an h47 (an h48 (an h47 (an5 h50 (an (Df p0.tree (Nr p0 k1).group r51 hr51) (an2 h50 (an4 h52 (an4 h53 (an3 tt (an6 tt tv))))))))))))))) ?_
          exact jD true hm Conv.eqK
         ·replace hm := Az h53 hm
          rcases bt (decide ((Nr p0 k1).user > 1048576)) with h54 | h54
          ·replace hm := Ay h54 hm
           refine RD hnt (nn 17 (pT :: pF :: nn 5 (o15 [] true r51 :: .no :: pF :: nn 4 (pF :: nn 4 (pF :: .no :: sk 2 (pT :: .no :: sk 5 (pT :: []))))))) [5,6,7] [(110,pB true)] [1040,1048] [] (an3 h47 (an5 h48 (an g49.1 (an g49.2 (an5 h48 (an h47 (an h48 (an h47 (an5 h50 (an (Df p0.tree (Nr p0 k1).group r51 hr51) (an2 h50 (an4 h52 (an4 h53 (an3 h54 (an6 tt tv))))))))))))))) ?_
           exact jD true hm Conv.eqK
          ·replace hm := Az h54 hm
           rcases bt (!r46.2) with h55 | h55
           ·replace hm := Ay h55 hm
            refine RD hnt (nn 17 (pT :: pF :: nn 5 (o15 [] true r51 :: .no :: pF :: nn 4 (pF :: nn 4 (pF :: nn 3 (pF :: .no :: sk 5 (pT :: []))))))) [5,6,7] [(110,pB true)] [1040,1048] [] (an3 h47 (an5 h48 (an g49.1 (an g49.2 (an5 h48 (an h47 (an h48 (an h47 (an5 h50 (an (Df p0.tree (Nr p0 k1).group r51 hr51) (an2 h50 (an4 h52 (an4 h53 (an3 h54 (an6 h55 tv))))))))))))))) ?_
            exact jD true hm Conv.eqK
           ·replace hm := Az h55 hm
            refine RD hnt (nn 17 (pT :: pF :: nn 5 (o15 [] true r51 :: .no :: pF :: nn 4 (pF :: nn 4 (pF :: nn 3 (pF :: nn 6 (pF :: []))))))) [5,6,7] [(110,pB (r46.1.user != (Nr p0 k1).user))] [1040,1048] [] (an3 h47 (an5 h48 (an g49.1 (an g49.2 (an5 h48 (an h47 (an h48 (an h47 (an5 h50 (an (Df p0.tree (Nr p0 k1).group r51 hr51) (an2 h50 (an4 h52 (an4 h53 (an3 h54 (an6 h55 tv))))))))))))))) ?_
            exact jD (r46.1.user != (Nr p0 k1).user) hm Conv.eqK
      ·replace hm := Az h48 hm
       obtain ⟨r56,hr56,hm⟩ := bo hm
       rcases bt (!r56) with h57 | h57
       ·replace hm := Ay h57 hm
        refine RD hnt (nn 7 (sk 10 (pF :: pF :: nn 5 (o15 [] true r56 :: .no :: pF :: .no :: sk 3 (pT :: .no :: sk 3 (pT :: .no :: sk 2 (pT :: .no :: sk 5 (pT :: [])))))))) [5,6,7] [(110,pB true)] [1040,1048] [] (an3 h47 (an4 h48 (an6 h48 (an h47 (an h48 (an h47 (an5 ff (an (Df p0.tree (Nr p0 k1).group r56 hr56) (an2 ff (an4 h57 (an tt (an6 tt (an6 tt tv))))))))))))) ?_
        exact jD true hm Conv.eqK
       ·replace hm := Az h57 hm
        rcases bt (decide ((Nr p0 k1).user < 0)) with h58 | h58
        ·replace hm := Ay h58 hm
         refine RD hnt (nn 7 (sk 10 (pF :: pF :: nn 5 (o15 [] true r56 :: .no :: pF :: nn 4 (pF :: .no :: sk 3 (pT :: .no :: sk 2 (pT :: .no :: sk 5 (pT :: [])))))))) [5,6,7] [(110,pB true)] [1040,1048] [] (an3 h47 (an4 h48 (an6 h48 (an h47 (an h48 (an h47 (an5 ff (an (Df p0.tree (Nr p0 k1).group r56 hr56) (an2 ff (an4 h57 (an4 h58 (an3 tt (an6 tt tv))))))))))))) ?_
         exact jD true hm Conv.eqK
        ·replace hm := Az h58 hm
         rcases bt (decide ((Nr p0 k1).user > 1048576)) with h59 | h59
         ·replace hm := Ay h59 hm
          refine RD hnt (nn 7 (sk 10 (pF :: pF :: nn 5 (o15 [] true r56 :: .no :: pF :: nn 4 (pF :: nn 4 (pF :: .no :: sk 2 (pT :: .no :: sk 5 (pT :: [])))))))) [5,6,7] [(110,pB true)] [1040,1048] [] (an3 h47 (an4 h48 (an6 h48 (an h47 (an h48 (an h47 (an5 ff (an (Df p0.tree (Nr p0 k1).group r56 hr56) (an2 ff (an4 h57 (an4 h58 (an3 h59 (an6 tt tv))))))))))))) ?_
          exact jD true hm Conv.eqK
         ·replace hm := Az h59 hm
          rcases bt (!r46.2) with h60 | h60
          ·replace hm := Ay h60 hm
           refine RD hnt (nn 7 (sk 10 (pF :: pF :: nn 5 (o15 [] true r56 :: .no :: pF :: nn 4 (pF :: nn 4 (pF :: nn 3 (pF :: .no :: sk 5 (pT :: [])))))))) [5,6,7] [(110,pB true)] [1040,1048] [] (an3 h47 (an4 h48 (an6 h48 (an h47 (an h48 (an h47 (an5 ff (an (Df p0.tree (Nr p0 k1).group r56 hr56) (an2 ff (an4 h57 (an4 h58 (an3 h59 (an6 h60 tv))))))))))))) ?_
           exact jD true hm Conv.eqK
          ·replace hm := Az h60 hm
           refine RD hnt (nn 7 (sk 10 (pF :: pF :: nn 5 (o15 [] true r56 :: .no :: pF :: nn 4 (pF :: nn 4 (pF :: nn 3 (pF :: nn 6 (pF :: [])))))))) [5,6,7] [(110,pB (r46.1.user != (Nr p0 k1).user))] [1040,1048] [] (an3 h47 (an4 h48 (an6 h48 (an h47 (an h48 (an h47 (an5 ff (an (Df p0.tree (Nr p0 k1).group r56 hr56) (an2 ff (an4 h57 (an4 h58 (an3 h59 (an6 h60 tv))))))))))))) ?_
           exact jD (r46.1.user != (Nr p0 k1).user) hm Conv.eqK
   ·intro h45
    have hge1 : ¬ k1 < p0.tasks.length := by have := of_decide_eq_false h45; omega
    have hm := he1 hge1
    unfold AbA at hm
    refine DW.exit ?_
    refine Ap ?_
    refine Au ?_
    refine An ?_
    show DW _ _ _ _ _
    refine Sq (RK hnt (.no :: []) [(2,pB true)] [] tv ?_)
    obtain rfl := sj hm
    exact DW.ret (Ai [] [] (pB true))
 ·rcases bt (!r1) with h2 | h2
  ·replace hm := Ay h2 hm
   refine RD hnt (nn 2 (o10 [] true r1 :: nn 2 (sk 2 (pT :: .no :: sk 3 (pT :: .no :: sk 3 (pT :: .no :: sk 14 (pT :: []))))))) [] [(44,pB true)] [] [] (an (Fx p0.tree r1 hr1) (an3 h2 (an tt (an6 tt (an6 tt tv))))) ?_
   exact jD true hm Conv.eqK
  ·replace hm := Az h2 hm
   rcases bt (decide (((p0.tasks.length : Nat) : Int) > 128)) with h3 | h3
   ·replace hm := Ay h3 hm
    refine RD hnt (nn 2 (o10 [] true r1 :: nn 4 (pF :: .no :: sk 3 (pT :: .no :: sk 3 (pT :: .no :: sk 14 (pT :: [])))))) [] [(44,pB true)] [] [] (an (Fx p0.tree r1 hr1) (an3 h2 (an4 h3 (an3 tt (an6 tt tv))))) ?_
    exact jD true hm Conv.eqK
   ·replace hm := Az h3 hm
    rcases bt (decide (p0.next < 1)) with h4 | h4
    ·replace hm := Ay h4 hm
     refine RD hnt (nn 2 (o10 [] true r1 :: nn 4 (pF :: nn 4 (pF :: .no :: sk 3 (pT :: .no :: sk 14 (pT :: [])))))) [] [(44,pB true)] [] [] (an (Fx p0.tree r1 hr1) (an3 h2 (an4 h3 (an4 h4 (an5 tt tv))))) ?_
     exact jD true hm Conv.eqK
    ·replace hm := Az h4 hm
     rcases bt (decide (p0.next > 2147483648)) with h5 | h5
     ·replace hm := Ay h5 hm
      refine RD hnt (nn 2 (o10 [] true r1 :: nn 4 (pF :: nn 4 (pF :: nn 4 (pF :: .no :: sk 14 (pT :: [])))))) [] [(44,pB true)] [] [] (an (Fx p0.tree r1 hr1) (an3 h2 (an4 h3 (an4 h4 (an5 h5 tv))))) ?_
      exact jD true hm Conv.eqK
     ·replace hm := Az h5 hm
      rcases bt (decide (((p0.tasks.length : Nat) : Int) > 0)) with h6 | h6
      ·replace hm := Ay h6 hm
       obtain ⟨g7,hm⟩ := go1 hm
       refine RD hnt (nn 2 (o10 [] true r1 :: nn 4 (pF :: nn 4 (pF :: nn 4 (pF :: nn 14 (pT :: pF :: [])))))) [] [(44,pB (decide (p0.next ≤ (p0.tasks.getD (Int.toNat (w64 (((p0.tasks.length : Nat) : Int) - 1))) Ba).id)))] [] [] (an (Fx p0.tree r1 hr1) (an3 h2 (an4 h3 (an4 h4 (an3 h5 (an h6 (an6 h6 (an g7.1 (an g7.2 (an3 h6 (an h5 (an h6 (an h5 tv))))))))))))) ?_
       exact jD (decide (p0.next ≤ (p0.tasks.getD (Int.toNat (w64 (((p0.tasks.length : Nat) : Int) - 1))) Ba).id)) hm Conv.eqK
      ·replace hm := Az h6 hm
       refine RD hnt (nn 2 (o10 [] true r1 :: nn 4 (pF :: nn 4 (pF :: nn 4 (pF :: nn 4 (sk 10 (pF :: pF :: []))))))) [] [(44,pB false)] [] [] (an (Fx p0.tree r1 hr1) (an3 h2 (an4 h3 (an4 h4 (an3 h5 (an4 h6 (an6 h6 (an h5 (an h6 (an h5 tv)))))))))) ?_
       exact jD false hm Conv.eqK
abbrev o9 (ks : List Nat) (b : Bool) (RES : Bool) : Orc := .call 71 ks b (pB RES) [] []

theorem Ahr (p0 : Ae) (p1 : Int) (RES : Int) (hm : Rv p0 p1 = some RES) : Spec Tryz.prog 145 [.p (.agg (Aj p0)),pI p1] [] (pI RES) [] [] := by
 unfold Rv at hm
 refine SO Tryz.func145 rfl rfl [(0,.p (.agg (Aj p0))),(1,pI p1)] [] ?_
 intro cx hnt
 refine Sq (RK hnt (nn 2 []) [(1,pI p1),(2,rr 1016)] [(1016,bx (pm (Aj p0)))] tv ?_)
 obtain ⟨r1,hr1,hm⟩ := bo hm
 refine Sq (RD hnt (nn 2 (o16 [] true r1 :: nn 6 [])) [] [(5,rr 1040),(6,pB r1.2)] [] [(1040,bx (pm (Ak r1.1)))] (an (Cg p0 p1 r1 hr1) tv) ?_)
 refine Sq (Sq (DW.regJ (sl2 := [(2,rr 1016),(5,rr 1040),(20,pB ((!r1.2) || (p1 == 1)))]) (ob2 := [(1016,bx (pm (Aj p0))),(1040,bx (pm (Ak r1.1)))]) ?_ ?_))
 ·rcases bt (!r1.2) with h2 | h2
  ·exact RT hnt (nn 3 (sk 2 (pT :: []))) [(20,pB true)] (an3 h2 tv) (by kernel_rfl) (.cons rfl (.of_eq (by rw [h2]; try rfl)) .nil)
  ·exact RT hnt (nn 5 (pF :: [])) [(20,pB (p1 == 1))] (an3 h2 tv) (by kernel_rfl) (.cons rfl (.of_eq (by rw [h2]; try rfl)) .nil)
 ·refine Ah hm ?_ ?_
  ·intro h3 hm
   refine Sq (RK hnt (.no :: []) [(4,pI 0)] [] tv ?_)
   obtain rfl := sj hm
   exact DW.ret (Ai [] [] (pI 0))
  ·intro h3 hm
   refine Sk ?_
   obtain ⟨r4,hr4,hm⟩ := bo hm
   refine Sq (RD hnt (nn 3 (o16 [] true r4 :: nn 6 [])) [2,20] [(7,rr 1056)] [1016] [(1056,bx (pm (Ak r4.1)))] (an (Cg p0 r1.1.parent r4 hr4) tv) ?_)
   refine Sq (Sq (RD hnt (nn 3 []) [5] [(30,pB (r1.1.kind == 1))] [1040] [] tv ?_))
   refine Ah hm ?_ ?_
   ·intro h5 hm
    refine Sq (RK hnt (nn 4 []) [(4,pI (Ax .i64 r4.1.control 6))] [] tv ?_)
    obtain rfl := sj hm
    exact DW.ret (Ai [] [] (pI (Ax .i64 r4.1.control 6)))
   ·intro h5 hm
    refine Sk ?_
    refine Sq (RK hnt (nn 3 []) [(4,pI r4.1.control)] [] tv ?_)
    obtain rfl := sj hm
    exact DW.ret (Ai [] [] (pI r4.1.control))
abbrev o18 (ks : List Nat) (b : Bool) (RES : Int) : Orc := .call 145 ks b (pI RES) [] []

theorem Kv (p0 : Ae) (p1 : Int) (RES : Int) (hm : Ir p0 p1 = some RES) : Spec Tryz.prog 113 [.p (.agg (Aj p0)),pI p1] [] (pI RES) [] [] := by
 unfold Ir at hm
 refine SO Tryz.func113 rfl rfl [(0,.p (.agg (Aj p0))),(1,pI p1)] [] ?_
 intro cx hnt
 refine Sq (RK hnt (nn 2 []) [(1,pI p1),(2,rr 1016)] [(1016,bx (pm (Aj p0)))] tv ?_)
 obtain ⟨r1,hr1,hm⟩ := bo hm
 refine Sq (RD hnt (nn 2 (o16 [] true r1 :: nn 6 [])) [] [(5,rr 1040),(6,pB r1.2)] [] [(1040,bx (pm (Ak r1.1)))] (an (Cg p0 p1 r1 hr1) tv) ?_)
 refine Sq (Sq (RD hnt (nn 2 []) [6] [(15,pB (!r1.2))] [] [] tv ?_))
 refine Ah hm ?_ ?_
 ·intro h2 hm
  refine Sq (RK hnt (.no :: []) [(4,pI 0)] [] tv ?_)
  obtain rfl := sj hm
  exact DW.ret (Ai [] [] (pI 0))
 ·intro h2 hm
  refine Sk ?_
  refine Sq (RD hnt (.no :: []) [15] [(7,pI 31)] [] [] tv ?_)
  refine Sq (Sq (RD hnt (nn 2 []) [] [(17,pB (p1 != 1))] [] [] tv ?_))
  refine Jn (ι := Int) (fun (y1 : Int) => Al [(5,rr 1040),(7,pI y1)] [(1040,bx (pm (Ak r1.1)))]) (fun y1 => (Ig r1) y1 = some RES) ?_ ?_
  ·intro y1 hm
   unfold Ig at hm
   refine Sq (Sq (RK hnt (nn 3 []) [(7,pI y1),(23,pB (r1.1.kind == 1))] [] tv ?_))
   refine Jn (ι := Int) (fun (y2 : Int) => Al [(7,pI y2)] []) (fun y2 => Jx y2 = some RES) ?_ ?_
   ·intro y2 hm
    unfold Jx at hm
    refine Sq (RK hnt (nn 2 []) [(4,pI y2)] [] tv ?_)
    obtain rfl := sj hm
    exact DW.ret (Ai [] [] (pI y2))
   ·refine Ah hm ?_ ?_
    ·intro h5 hm
     refine RK hnt (nn 3 []) [(7,pI (Ax .i64 y1 6))] [] tv ?_
     exact jD (Ax .i64 y1 6) hm .refl
    ·intro h5 hm
     refine Sk ?_
     exact jD y1 hm Conv.t0
  ·refine Ah hm ?_ ?_
   ·intro h3 hm
    obtain ⟨r4,hr4,hm⟩ := bo hm
    refine RD hnt (nn 2 (o18 [] true r4 :: .no :: [])) [1,2,17] [(7,pI r4)] [1016] [] (an (Ahr p0 p1 r4 hr4) tv) ?_
    exact jD r4 hm Conv.eqK
   ·intro h3 hm
    refine Sk ?_
    exact jD 31 hm Conv.t0
abbrev o17 (ks : List Nat) (b : Bool) (RES : Int) : Orc := .call 113 ks b (pI RES) [] []

abbrev Zi (p0 : Aa) (k1 : Nat) := (p0.tasks.getD k1 (default : Am))
theorem Jz (p0 : Aa) (p1 : Int) (RES : List Int) (hm : Ha p0 p1 = some RES) : Spec Tryz.prog 27 [.p (.agg (Ab p0)),pI p1] [] (ow 0 RES.length) [] [roI RES] := by
 unfold Ha at hm
 refine SO Tryz.func27 rfl rfl [(0,.p (.agg (Ab p0))),(1,pI p1)] [] ?_
 intro cx hnt
 refine Sq (RK hnt (nn 2 []) [(1,pI p1),(2,rr 1016)] [(1016,bx (pm (Ab p0)))] tv ?_)
 obtain ⟨r1,hr1,hm⟩ := bo hm
 refine Sq (Sq (RD hnt (.no :: o9 [] true r1 :: .no :: []) [] [(9,pB (!r1))] [] [] (an (He p0 r1 hr1) tv) ?_))
 refine Ah hm ?_ ?_
 ·intro h2 hm
  refine Sq (RK hnt (.no :: []) [(4,.p (.sl .nil 0 0 (fun _ => [])))] [] tv ?_)
  refine DW.cv [] [(4,ow 100000 0)] [] [(100000,ob0 (roI []))] (Conv.ads [(.s 4,100000,1,elems Cl 0 [])]) ?_
  obtain rfl := sj hm
  exact DW.ret (Ai [roI []] [100000] (ow 0 0))
 ·intro h2 hm
  refine Sk ?_
  refine Sq (RD hnt (.no :: []) [9] [(5,.p (.sl .nil 0 0 (fun _ => [])))] [] [] tv ?_)
  refine Sq (Sq (RD hnt (.no :: []) [] [(6,pI 0)] [] [] tv ?_))
  refine Bk ?_
  obtain ⟨hc1,hm⟩ := go1 hm
  refine DW.rangeO (fun (k1 : Nat) (s1 : List Int) => Al [(1,pI p1),(2,rr 1016),(5,ow 1264 s1.length),(6,pI ((k1 : Nat) : Int))] [(1016,bx (pm (Ab p0))),(1264,ob0 (roI s1))]) Ba hm (Conv.ads [(.s 5,1264,1,elems Cl 0 [])]) ?_
  intro k1 s1 n1 hk1 hs1 he1
  refine Sq (Sq (RD hnt (nn 5 []) [] [(14,pB (decide (((k1 : Nat) : Int) < ((p0.tasks.length : Nat) : Int))))] [] [] tv ?_))
  refine Bx (decide (((k1 : Nat) : Int) < ((p0.tasks.length : Nat) : Int))) ?_ ?_
  ·intro h12
   have hlt1 : k1 < p0.tasks.length := by have := of_decide_eq_true h12; omega
   have hm := hs1 hlt1
   unfold AbL at hm
   refine Sk ?_
   refine Sq ?_
   refine Jn (ι := List Int) (fun (y3 : List Int) => Al [(1,pI p1),(2,rr 1016),(5,ow 1264 y3.length),(6,pI ((k1 : Nat) : Int))] [(1016,bx (pm (Ab p0))),(1264,ob0 (roI y3))]) (fun y3 => (Ta n1) y3 = some RES) ?_ ?_
   ·intro y3 hm
    unfold Ta at hm
    refine RD hnt (nn 3 []) [] [(6,pI (w64 (((k1 : Nat) : Int) + 1)))] [] [] tv ?_
    exact jD y3 ⟨hlt1,hm⟩ (Conv.tp [(6,pI (w64 (((k1 : Nat) : Int) + 1)))] [] (by kernel_rfl) (.cons rfl (.of_eq (congrArg pI (Bj hlt1 hc1))) .nil) .nil)
   ·refine Bk ?_
    refine Sq (RD hnt (nn 8 []) [14] [(24,pB ((Zi p0 k1).group == p1))] [] [] (an (nn0 k1) (an (ltc hlt1) tv)) ?_)
    refine Ah hm ?_ ?_
    ·intro h13 hm
     obtain ⟨g14,hm⟩ := go1 hm
     refine RN hnt (nn 10 []) [(1,pI p1),(2,rr 1016),(5,ow 1264 (s1 ++ [(Zi p0 k1).id]).length),(6,pI ((k1 : Nat) : Int))] [(1016,bx (pm (Ab p0))),(1264,ob0 (roI (s1 ++ [(Zi p0 k1).id])))] [(5,ow 1264 (s1.length + 1))] [(1264,.row 1 (s1.length + 1) (Ef s1.length (elI s1) (cut 1 [vi (Zi p0 k1).id])))] (an (nn0 k1) (an (ltc hlt1) (an (by omega : (s1.length + 1) * 8 ≤ 140737488355328) tv))) (by kernel_rfl) (.cons rfl (MLe.ownLen (enc := Cl) (d := 0) (f := (Ef s1.length (elI s1) (cut 1 [vi (Zi p0 k1).id]))) (RowIs.cat RowIs.elems (RowIs.lit (enc := Cl) (d := 0) (n := 1) (f := (cut 1 [vi (Zi p0 k1).id])) [(Zi p0 k1).id] rfl (fun | 0,_ => rfl | n + 1,h => absurd h (by omega))))) .nil) (.cons rfl (BLe.typed (RowIs.cat RowIs.elems (RowIs.lit (enc := Cl) (d := 0) (n := 1) (f := (cut 1 [vi (Zi p0 k1).id])) [(Zi p0 k1).id] rfl (fun | 0,_ => rfl | n + 1,h => absurd h (by omega))))) .nil) ?_
     exact bD (s1 ++ [(Zi p0 k1).id]) hm .refl
    ·intro h13 hm
     refine Sk ?_
     exact bD s1 hm Conv.t0
  ·intro h12
   have hge1 : ¬ k1 < p0.tasks.length := by have := of_decide_eq_false h12; omega
   have hm := he1 hge1
   unfold Afq at hm
   refine DW.exit ?_
   refine Ap ?_
   refine Au ?_
   refine An ?_
   show DW _ _ _ _ _
   refine Sq (RK hnt (nn 2 []) [(4,ow 1264 s1.length)] [(1264,ob0 (roI s1))] tv ?_)
   obtain rfl := sj hm
   exact DW.ret (Ai [roI s1] [1264] (ow 0 s1.length))
abbrev o19 (ks : List Nat) (b : Bool) (RES : List Int) : Orc := .call 27 ks b (ow 0 RES.length) [] [roI RES]

abbrev c8e1 (p0 : Aa) (k1 : Nat) := (p0.tree.nodes.getD k1 (default : Ag))
theorem Qd (p0 : Aa) (RES : Bool) (hm : Pf p0 = some RES) : Spec Tryz.prog 65 [.p (.agg (Ab p0))] [] (pB RES) [] [] := by
 unfold Pf at hm
 refine SO Tryz.func65 rfl rfl [(0,.p (.agg (Ab p0)))] [] ?_
 intro cx hnt
 refine Sq (RK hnt (nn 2 []) [(1,rr 1008)] [(1008,bx (pm (Ab p0)))] tv ?_)
 obtain ⟨r1,hr1,hm⟩ := bo hm
 refine Sq (Sq (RD hnt (.no :: o9 [] true r1 :: .no :: []) [] [(7,pB (!r1))] [] [] (an (He p0 r1 hr1) tv) ?_))
 refine Ah hm ?_ ?_
 ·intro h2 hm
  refine Sq (RK hnt (.no :: []) [(2,pB false)] [] tv ?_)
  obtain rfl := sj hm
  exact DW.ret (Ai [] [] (pB false))
 ·intro h2 hm
  refine Sk ?_
  refine Sq (Sq (RD hnt (.no :: []) [7] [(3,pI 0)] [] [] tv ?_))
  refine Bk ?_
  obtain ⟨hc1,hm⟩ := go1 hm
  refine DW.rangeO (fun (k1 : Nat) (s1 : Unit) => Al [(1,rr 1008),(3,pI ((k1 : Nat) : Int))] [(1008,bx (pm (Ab p0)))]) Ar hm Conv.eqK ?_
  intro k1 s1 n1 hk1 hs1 he1
  refine Sq (Sq (RD hnt (nn 6 []) [] [(13,pB (decide (((k1 : Nat) : Int) < ((p0.tree.nodes.length : Nat) : Int))))] [] [] tv ?_))
  refine Bx (decide (((k1 : Nat) : Int) < ((p0.tree.nodes.length : Nat) : Int))) ?_ ?_
  ·intro h19
   have hlt1 : k1 < p0.tree.nodes.length := by have := of_decide_eq_true h19; omega
   have hm := hs1 hlt1
   unfold Wr at hm
   refine Sk ?_
   refine Sq (Bk ?_)
   refine Sq (RD hnt (nn 8 []) [13] [(4,rr 1032)] [] [(1032,bx (pm (Ak (c8e1 p0 k1))))] (an (nn0 k1) (an (ltc hlt1) tv)) ?_)
   obtain ⟨r20,hr20,hm⟩ := bo hm
   refine Sq ?_
   refine Jn (ι := Bool) (fun (y3 : Bool) => Al [(1,rr 1008),(3,pI ((k1 : Nat) : Int)),(49,pB y3)] [(1008,bx (pm (Ab p0)))]) (fun y3 => (Jc n1) y3 = some RES) ?_ ?_
   ·intro y3 hm
    unfold Jc at hm
    refine Ah hm ?_ ?_
    ·intro h25 hm
     refine Sq (RK hnt (.no :: []) [(2,pB false)] [] tv ?_)
     obtain rfl := sj hm
     exact DW.ret (Ai [] [] (pB false))
    ·intro h25 hm
     refine Sk ?_
     refine DW.done ?_
     show DW _ _ _ _ _
     refine RD hnt (nn 3 []) [49] [(3,pI (w64 (((k1 : Nat) : Int) + 1)))] [] [] tv ?_
     exact jD () ⟨hlt1,hm⟩ (Conv.tp [(3,pI (w64 (((k1 : Nat) : Int) + 1)))] [] (by kernel_rfl) (.cons rfl (.of_eq (congrArg pI (Bj hlt1 hc1))) .nil) .nil)
   ·rcases bt ((Ax .i64 (c8e1 p0 k1).control r20) != 0) with h21 | h21
    ·replace hm := Ay h21 hm
     refine RD hnt (nn 6 (o17 [] true r20 :: nn 3 (sk 17 (pT :: [])))) [4] [(49,pB true)] [1032] [] (an (Kv p0.tree (c8e1 p0 k1).id r20 hr20) (an2 h21 (an6 h21 tv))) ?_
     exact jD true hm Conv.eqK
    ·replace hm := Az h21 hm
     rcases bt ((c8e1 p0 k1).id != 1) with h22 | h22
     ·replace hm := Ay h22 hm
      rcases bt ((kand .i64 (c8e1 p0 k1).control 6) != 0) with h23 | h23
      ·replace hm := Ay h23 hm
       obtain ⟨r24,hr24,hm⟩ := bo hm
       refine RD hnt (nn 6 (o17 [] true r20 :: nn 11 (pT :: nn 4 (o19 [] true r24 :: nn 2 (pT :: pF :: []))))) [4] [(49,pB (decide (((r24.length : Nat) : Int) > 0)))] [1032] [] (an (Kv p0.tree (c8e1 p0 k1).id r20 hr20) (an4 h21 (an4 h22 (an h21 (an h22 (an h21 (an4 h23 (an (Jz p0 (c8e1 p0 k1).id r24 hr24) (an2 h23 (an h21 (an h23 (an h21 tv)))))))))))) ?_
       exact jD (decide (((r24.length : Nat) : Int) > 0)) hm Conv.eqK
      ·replace hm := Az h23 hm
       refine RD hnt (nn 6 (o17 [] true r20 :: nn 11 (pT :: .no :: sk 6 (pF :: pF :: [])))) [4] [(49,pB false)] [1032] [] (an (Kv p0.tree (c8e1 p0 k1).id r20 hr20) (an4 h21 (an4 h22 (an h21 (an h22 (an h21 (an6 h23 (an h21 (an h23 (an h21 tv)))))))))) ?_
       exact jD false hm Conv.eqK
     ·replace hm := Az h22 hm
      refine RD hnt (nn 6 (o17 [] true r20 :: nn 7 (sk 4 (pF :: .no :: sk 6 (pF :: pF :: []))))) [4] [(49,pB false)] [1032] [] (an (Kv p0.tree (c8e1 p0 k1).id r20 hr20) (an4 h21 (an4 h22 (an h21 (an h22 (an h21 (an6 ff (an h21 (an ff (an h21 tv)))))))))) ?_
      exact jD false hm Conv.eqK
  ·intro h19
   have hge1 : ¬ k1 < p0.tree.nodes.length := by have := of_decide_eq_false h19; omega
   have hm := he1 hge1
   unfold Aet at hm
   refine DW.exit ?_
   refine Ap ?_
   refine Au ?_
   refine An ?_
   show DW _ _ _ _ _
   refine Sq (RK hnt (.no :: []) [(2,pB true)] [] tv ?_)
   obtain rfl := sj hm
   exact DW.ret (Ai [] [] (pB true))
abbrev o8 (ks : List Nat) (b : Bool) (RES : Bool) : Orc := .call 65 ks b (pB RES) [] []

theorem Rn (p0 : Aa) (p1 : Int) (RES : Am × Bool) (hm : Hj p0 p1 = some RES) : Spec Tryz.prog 66 [.p (.agg (Ab p0)),pI p1] [] (.p (.tup [.agg (Ao RES.1),vb RES.2])) [] [] := by
 unfold Hj at hm
 refine SO Tryz.func66 rfl rfl [(0,.p (.agg (Ab p0))),(1,pI p1)] [] ?_
 intro cx hnt
 refine Sq (RK hnt (nn 3 []) [(1,pI p1),(2,rr 1016),(4,rr 1032)] [(1016,bx (pm (Ab p0))),(1032,bx [pI 0,pI 0,pI 0,pI 0])] tv ?_)
 obtain ⟨r1,hr1,hm⟩ := bo hm
 refine Sq (Sq (RD hnt (.no :: o9 [] true r1 :: .no :: []) [] [(9,pB (!r1))] [] [] (an (He p0 r1 hr1) tv) ?_))
 refine Ah hm ?_ ?_
 ·intro h2 hm
  refine Sq (RD hnt (nn 3 []) [1,2,9] [(5,pB false)] [1016] [] tv ?_)
  obtain rfl := sj hm
  exact DW.ret (Ai [] [] (.p (.tup [.agg [vi 0,vi 0,vi 0,vi 0],vb false])))
 ·intro h2 hm
  refine Sk ?_
  refine Sq (Sq (RD hnt (.no :: []) [9] [(6,pI 0)] [] [] tv ?_))
  refine Bk ?_
  obtain ⟨hc1,hm⟩ := go1 hm
  refine DW.rangeO (fun (k1 : Nat) (s1 : Unit) => Al [(1,pI p1),(2,rr 1016),(4,rr 1032),(6,pI ((k1 : Nat) : Int))] [(1016,bx (pm (Ab p0))),(1032,bx [pI 0,pI 0,pI 0,pI 0])]) Ba hm Conv.eqK ?_
  intro k1 s1 n1 hk1 hs1 he1
  refine Sq (Sq (RD hnt (nn 5 []) [] [(15,pB (decide (((k1 : Nat) : Int) < ((p0.tasks.length : Nat) : Int))))] [] [] tv ?_))
  refine Bx (decide (((k1 : Nat) : Int) < ((p0.tasks.length : Nat) : Int))) ?_ ?_
  ·intro h11
   have hlt1 : k1 < p0.tasks.length := by have := of_decide_eq_true h11; omega
   have hm := hs1 hlt1
   unfold AfV at hm
   refine Sk ?_
   refine Sq (Bk ?_)
   refine Sq (RD hnt (nn 8 []) [15] [(25,pB ((p0.tasks.getD k1 (default : Am)).id == p1))] [] [] (an (nn0 k1) (an (ltc hlt1) tv)) ?_)
   refine Ah hm ?_ ?_
   ·intro h12 hm
    refine Sq (RK hnt (nn 7 []) [(4,rr 1032),(5,pB true)] [(1032,bx (pm (Ao (p0.tasks.getD k1 (default : Am)))))] (an (nn0 k1) (an (ltc hlt1) tv)) ?_)
    obtain rfl := sj hm
    exact DW.ret (Ai [] [] (.p (.tup [.agg (Ao (p0.tasks.getD k1 (default : Am))),vb true])))
   ·intro h12 hm
    refine Sk ?_
    refine DW.done ?_
    show DW _ _ _ _ _
    refine RD hnt (nn 3 []) [25] [(6,pI (w64 (((k1 : Nat) : Int) + 1)))] [] [] tv ?_
    exact jD () ⟨hlt1,hm⟩ (Conv.tp [(6,pI (w64 (((k1 : Nat) : Int) + 1)))] [] (by kernel_rfl) (.cons rfl (.of_eq (congrArg pI (Bj hlt1 hc1))) .nil) .nil)
  ·intro h11
   have hge1 : ¬ k1 < p0.tasks.length := by have := of_decide_eq_false h11; omega
   have hm := he1 hge1
   unfold Agi at hm
   refine DW.exit ?_
   refine Ap ?_
   refine Au ?_
   refine An ?_
   show DW _ _ _ _ _
   refine Sq (RD hnt (nn 3 []) [1,2,6,15] [(5,pB false)] [1016] [] tv ?_)
   obtain rfl := sj hm
   exact DW.ret (Ai [] [] (.p (.tup [.agg [vi 0,vi 0,vi 0,vi 0],vb false])))
abbrev o20 (ks : List Nat) (b : Bool) (RES : Am × Bool) : Orc := .call 66 ks b (.p (.tup [.agg (Ao RES.1),vb RES.2])) [] []

theorem Tb (p0 : Ae) (p1 : Int) (RES : List Int) (hm : Hc p0 p1 = some RES) : Spec Tryz.prog 72 [.p (.agg (Aj p0)),pI p1] [] (ow 0 RES.length) [] [roI RES] := by
 unfold Hc at hm
 refine SO Tryz.func72 rfl rfl [(0,.p (.agg (Aj p0))),(1,pI p1)] [] ?_
 intro cx hnt
 refine Sq (RK hnt (nn 2 []) [(1,pI p1),(2,rr 1016)] [(1016,bx (pm (Aj p0)))] tv ?_)
 obtain ⟨r1,hr1,hm⟩ := bo hm
 refine Sq (Sq (RD hnt (nn 2 (o15 [] true r1 :: .no :: [])) [] [(8,pB (!r1))] [] [] (an (Df p0 p1 r1 hr1) tv) ?_))
 refine Ah hm ?_ ?_
 ·intro h2 hm
  refine Sq (RK hnt (.no :: []) [(4,.p (.sl .nil 0 0 (fun _ => [])))] [] tv ?_)
  refine DW.cv [] [(4,ow 100000 0)] [] [(100000,ob0 (roI []))] (Conv.ads [(.s 4,100000,1,elems Cl 0 [])]) ?_
  obtain rfl := sj hm
  exact DW.ret (Ai [roI []] [100000] (ow 0 0))
 ·intro h2 hm
  refine Sk ?_
  obtain ⟨r3,hr3,hm⟩ := bo hm
  refine Sq (RK hnt (nn 2 (o13 [] true r3 :: .no :: [])) [(4,ow 1088 r3.length)] [(1088,ob0 (roI r3))] (an (AfW p0 p1 r3 hr3) tv) ?_)
  obtain rfl := sj hm
  exact DW.ret (Ai [roI r3] [1088] (ow 0 r3.length))
abbrev o22 (ks : List Nat) (b : Bool) (RES : List Int) : Orc := .call 72 ks b (ow 0 RES.length) [] [roI RES]

theorem Sf (p0 : Ae) (p1 : Int) (RES : Int × Bool) (hm : Iy p0 p1 = some RES) : Spec Tryz.prog 67 [.p (.agg (Aj p0)),pI p1] [] (.p (.tup [vi RES.1,vb RES.2])) [] [] := by
 unfold Iy at hm
 refine SO Tryz.func67 rfl rfl [(0,.p (.agg (Aj p0))),(1,pI p1)] [] ?_
 intro cx hnt
 refine Sq (RK hnt (nn 3 []) [(1,pI p1),(2,rr 1016)] [(1016,bx (pm (Aj p0)))] tv ?_)
 obtain ⟨r1,hr1,hm⟩ := bo hm
 refine Sq (RD hnt (nn 2 (o22 [] true r1 :: .no :: [])) [1] [(6,ow 1096 r1.length)] [] [(1096,ob0 (roI r1))] (an (Tb p0 p1 r1 hr1) tv) ?_)
 refine Sq (Sq (RD hnt (.no :: []) [] [(7,pI 0)] [] [] tv ?_))
 refine Bk ?_
 obtain ⟨hc1,hm⟩ := go1 hm
 refine DW.rangeO (fun (k1 : Nat) (s1 : Unit) => Al [(2,rr 1016),(6,ow 1096 r1.length),(7,pI ((k1 : Nat) : Int))] [(1016,bx (pm (Aj p0))),(1096,ob0 (roI r1))]) 0 hm Conv.eqK ?_
 intro k1 s1 n1 hk1 hs1 he1
 refine Sq (Sq (RD hnt (nn 4 []) [] [(16,pB (decide (((k1 : Nat) : Int) < ((r1.length : Nat) : Int))))] [] [] tv ?_))
 refine Bx (decide (((k1 : Nat) : Int) < ((r1.length : Nat) : Int))) ?_ ?_
 ·intro h16
  have hlt1 : k1 < r1.length := by have := of_decide_eq_true h16; omega
  have hm := hs1 hlt1
  unfold Vw at hm
  refine Sk ?_
  refine Sq (Bk ?_)
  obtain ⟨r17,hr17,hm⟩ := bo hm
  refine Sq (RD hnt (nn 5 (o16 [] true r17 :: nn 6 [])) [16] [(8,rr 1064)] [] [(1064,bx (pm (Ak r17.1)))] (an (nn0 k1) (an (ltc hlt1) (an (by omega : k1 < r1.length) (an (Cg p0 (r1.getD k1 0) r17 hr17) tv)))) ?_)
  refine Sq (RD hnt (nn 3 []) [8] [(30,pB (r17.1.kind != 1))] [1064] [] tv ?_)
  refine Ah hm ?_ ?_
  ·intro h18 hm
   refine Sq (RK hnt (nn 6 []) [(4,pI (r1.getD k1 0)),(5,pB true)] [] (an (nn0 k1) (an (ltc hlt1) (an (by omega : k1 < r1.length) tv))) ?_)
   obtain rfl := sj hm
   exact DW.ret (Ai [] [] (.p (.tup [vi (r1.getD k1 0),vb true])))
  ·intro h18 hm
   refine Sk ?_
   refine DW.done ?_
   show DW _ _ _ _ _
   refine RD hnt (nn 3 []) [30] [(7,pI (w64 (((k1 : Nat) : Int) + 1)))] [] [] tv ?_
   exact jD () ⟨hlt1,hm⟩ (Conv.tp [(7,pI (w64 (((k1 : Nat) : Int) + 1)))] [] (by kernel_rfl) (.cons rfl (.of_eq (congrArg pI (Bj hlt1 hc1))) .nil) .nil)
 ·intro h16
  have hge1 : ¬ k1 < r1.length := by have := of_decide_eq_false h16; omega
  have hm := he1 hge1
  unfold Aec at hm
  refine DW.exit ?_
  refine Ap ?_
  refine Au ?_
  refine An ?_
  show DW _ _ _ _ _
  refine Sq (RK hnt (nn 2 []) [(4,pI 0),(5,pB false)] [] tv ?_)
  obtain rfl := sj hm
  exact DW.ret (Ai [] [] (.p (.tup [vi 0,vb false])))
abbrev o21 (ks : List Nat) (b : Bool) (RES : Int × Bool) : Orc := .call 67 ks b (.p (.tup [vi RES.1,vb RES.2])) [] []

abbrev Zq (p0 : Ae) (k1 : Nat) := (p0.nodes.getD k1 (default : Ag))
theorem Um (p0 : Ae) (p1 : Int) (RES : List Int) (hm : Hv p0 p1 = some RES) : Spec Tryz.prog 114 [.p (.agg (Aj p0)),pI p1] [] (ow 0 RES.length) [] [roI RES] := by
 unfold Hv at hm
 refine SO Tryz.func114 rfl rfl [(0,.p (.agg (Aj p0))),(1,pI p1)] [] ?_
 intro cx hnt
 refine Sq (RK hnt (nn 2 []) [(1,pI p1),(2,rr 1016)] [(1016,bx (pm (Aj p0)))] tv ?_)
 obtain ⟨r1,hr1,hm⟩ := bo hm
 refine Sq (Sq (RD hnt (nn 2 (o15 [] true r1 :: .no :: [])) [] [(10,pB (!r1))] [] [] (an (Df p0 p1 r1 hr1) tv) ?_))
 refine Ah hm ?_ ?_
 ·intro h2 hm
  refine Sq (RK hnt (.no :: []) [(4,.p (.sl .nil 0 0 (fun _ => [])))] [] tv ?_)
  refine DW.cv [] [(4,ow 100000 0)] [] [(100000,ob0 (roI []))] (Conv.ads [(.s 4,100000,1,elems Cl 0 [])]) ?_
  obtain rfl := sj hm
  exact DW.ret (Ai [roI []] [100000] (ow 0 0))
 ·intro h2 hm
  refine Sk ?_
  refine Sq (RD hnt (.no :: []) [10] [(5,.p (.sl .nil 0 0 (fun _ => [])))] [] [] tv ?_)
  refine Sq (Sq (RD hnt (.no :: []) [] [(6,pI 0)] [] [] tv ?_))
  refine Bk ?_
  obtain ⟨hc1,hm⟩ := go1 hm
  refine DW.rangeO (fun (k1 : Nat) (s1 : List Int) => Al [(1,pI p1),(2,rr 1016),(5,ow 1272 s1.length),(6,pI ((k1 : Nat) : Int))] [(1016,bx (pm (Aj p0))),(1272,ob0 (roI s1))]) Ar hm (Conv.ads [(.s 5,1272,1,elems Cl 0 [])]) ?_
  intro k1 s1 n1 hk1 hs1 he1
  refine Sq (Sq (RD hnt (nn 5 []) [] [(15,pB (decide (((k1 : Nat) : Int) < ((p0.nodes.length : Nat) : Int))))] [] [] tv ?_))
  refine Bx (decide (((k1 : Nat) : Int) < ((p0.nodes.length : Nat) : Int))) ?_ ?_
  ·intro h12
   have hlt1 : k1 < p0.nodes.length := by have := of_decide_eq_true h12; omega
   have hm := hs1 hlt1
   unfold Wy at hm
   refine Sk ?_
   refine Sq ?_
   refine Jn (ι := List Int) (fun (y3 : List Int) => Al [(1,pI p1),(2,rr 1016),(5,ow 1272 y3.length),(6,pI ((k1 : Nat) : Int))] [(1016,bx (pm (Aj p0))),(1272,ob0 (roI y3))]) (fun y3 => (Pe n1) y3 = some RES) ?_ ?_
   ·intro y3 hm
    unfold Pe at hm
    refine RD hnt (nn 3 []) [] [(6,pI (w64 (((k1 : Nat) : Int) + 1)))] [] [] tv ?_
    exact jD y3 ⟨hlt1,hm⟩ (Conv.tp [(6,pI (w64 (((k1 : Nat) : Int) + 1)))] [] (by kernel_rfl) (.cons rfl (.of_eq (congrArg pI (Bj hlt1 hc1))) .nil) .nil)
   ·refine Bk ?_
    refine Sq (RD hnt (nn 8 []) [15] [(25,pB ((Zq p0 k1).parent == p1))] [] [] (an (nn0 k1) (an (ltc hlt1) tv)) ?_)
    refine Ah hm ?_ ?_
    ·intro h13 hm
     obtain ⟨g14,hm⟩ := go1 hm
     refine RN hnt (nn 10 []) [(1,pI p1),(2,rr 1016),(5,ow 1272 (s1 ++ [(Zq p0 k1).id]).length),(6,pI ((k1 : Nat) : Int))] [(1016,bx (pm (Aj p0))),(1272,ob0 (roI (s1 ++ [(Zq p0 k1).id])))] [(5,ow 1272 (s1.length + 1))] [(1272,.row 1 (s1.length + 1) (Ef s1.length (elI s1) (cut 1 [vi (Zq p0 k1).id])))] (an (nn0 k1) (an (ltc hlt1) (an (by omega : (s1.length + 1) * 8 ≤ 140737488355328) tv))) (by kernel_rfl) (.cons rfl (MLe.ownLen (enc := Cl) (d := 0) (f := (Ef s1.length (elI s1) (cut 1 [vi (Zq p0 k1).id]))) (RowIs.cat RowIs.elems (RowIs.lit (enc := Cl) (d := 0) (n := 1) (f := (cut 1 [vi (Zq p0 k1).id])) [(Zq p0 k1).id] rfl (fun | 0,_ => rfl | n + 1,h => absurd h (by omega))))) .nil) (.cons rfl (BLe.typed (RowIs.cat RowIs.elems (RowIs.lit (enc := Cl) (d := 0) (n := 1) (f := (cut 1 [vi (Zq p0 k1).id])) [(Zq p0 k1).id] rfl (fun | 0,_ => rfl | n + 1,h => absurd h (by omega))))) .nil) ?_
     exact bD (s1 ++ [(Zq p0 k1).id]) hm .refl
    ·intro h13 hm
     refine Sk ?_
     exact bD s1 hm Conv.t0
  ·intro h12
   have hge1 : ¬ k1 < p0.nodes.length := by have := of_decide_eq_false h12; omega
   have hm := he1 hge1
   unfold Ach at hm
   refine DW.exit ?_
   refine Ap ?_
   refine Au ?_
   refine An ?_
   show DW _ _ _ _ _
   refine Sq (RK hnt (nn 2 []) [(4,ow 1272 s1.length)] [(1272,ob0 (roI s1))] tv ?_)
   obtain rfl := sj hm
   exact DW.ret (Ai [roI s1] [1272] (ow 0 s1.length))
abbrev o24 (ks : List Nat) (b : Bool) (RES : List Int) : Orc := .call 114 ks b (ow 0 RES.length) [] [roI RES]

theorem Aig (rec : Ae → Int → Option Int) (ih : ∀ (p0 : Ae) (p1 : Int) (RES : Int),rec p0 p1 = some RES → Spec Tryz.prog 68 [.p (.agg (Aj p0)),pI p1] [] (pI RES) [] []) (p0 : Ae) (p1 : Int) (RES : Int) (hm : Pd rec p0 p1 = some RES) : Spec Tryz.prog 68 [.p (.agg (Aj p0)),pI p1] [] (pI RES) [] [] := by
 unfold Pd at hm
 refine SO Tryz.func68 rfl rfl [(0,.p (.agg (Aj p0))),(1,pI p1)] [] ?_
 intro cx hnt
 refine Sq (RK hnt (nn 2 []) [(1,pI p1),(2,rr 1016)] [(1016,bx (pm (Aj p0)))] tv ?_)
 obtain ⟨r1,hr1,hm⟩ := bo hm
 refine Sq (RD hnt (nn 2 (o16 [] true r1 :: nn 6 [])) [] [(5,rr 1040),(6,pB r1.2)] [] [(1040,bx (pm (Ak r1.1)))] (an (Cg p0 p1 r1 hr1) tv) ?_)
 refine Sq (Sq (RD hnt (nn 2 []) [6] [(20,pB (!r1.2))] [] [] tv ?_))
 refine Ah hm ?_ ?_
 ·intro h2 hm
  refine Sq (RK hnt (.no :: []) [(4,pI 0)] [] tv ?_)
  obtain rfl := sj hm
  exact DW.ret (Ai [] [] (pI 0))
 ·intro h2 hm
  refine Sk ?_
  refine Sq (Sq (RD hnt (nn 3 []) [20] [(23,pB (r1.1.kind == 1))] [] [] tv ?_))
  refine Ah hm ?_ ?_
  ·intro h3 hm
   refine Sq (RK hnt (.no :: []) [(4,pI 2)] [] tv ?_)
   obtain rfl := sj hm
   exact DW.ret (Ai [] [] (pI 2))
  ·intro h3 hm
   refine Sk ?_
   obtain ⟨r4,hr4,hm⟩ := bo hm
   refine Sq (Sq (RD hnt (nn 3 (o16 [] true r4 :: nn 6 [])) [5,23] [(7,rr 1056),(8,pB r4.2)] [1040] [(1056,bx (pm (Ak r4.1)))] (an (Cg p0 r1.1.parent r4 hr4) tv) ?_))
   refine Sq ?_
   refine Jn (ι := Bool) (fun (y1 : Bool) => Al [(1,pI p1),(2,rr 1016),(43,pB y1)] [(1016,bx (pm (Aj p0)))]) (fun y1 => (Kj p0 p1) y1 = some RES) ?_ ?_
   ·intro y1 hm
    unfold Kj at hm
    refine Ah hm ?_ ?_
    ·intro h8 hm
     refine Sq (RK hnt (.no :: []) [(4,pI 3)] [] tv ?_)
     obtain rfl := sj hm
     exact DW.ret (Ai [] [] (pI 3))
    ·intro h8 hm
     refine Sk ?_
     obtain ⟨r9,hr9,hm⟩ := bo hm
     refine Sq (RD hnt (nn 2 (o24 [] true r9 :: .no :: [])) [1,43] [(9,ow 1368 r9.length)] [] [(1368,ob0 (roI r9))] (an (Um p0 p1 r9 hr9) tv) ?_)
     refine Sq (Sq (RD hnt (.no :: []) [] [(10,pI 0)] [] [] tv ?_))
     refine Bk ?_
     obtain ⟨hc1,hm⟩ := go1 hm
     refine DW.rangeO (fun (k1 : Nat) (s1 : Unit) => Al [(2,rr 1016),(9,ow 1368 r9.length),(10,pI ((k1 : Nat) : Int))] [(1016,bx (pm (Aj p0))),(1368,ob0 (roI r9))]) 0 hm Conv.eqK ?_
     intro k1 s1 n1 hk1 hs1 he1
     refine Sq (Sq (RD hnt (nn 4 []) [] [(50,pB (decide (((k1 : Nat) : Int) < ((r9.length : Nat) : Int))))] [] [] tv ?_))
     refine Bx (decide (((k1 : Nat) : Int) < ((r9.length : Nat) : Int))) ?_ ?_
     ·intro h20
      have hlt1 : k1 < r9.length := by have := of_decide_eq_true h20; omega
      have hm := hs1 hlt1
      unfold Zo at hm
      refine Sk ?_
      refine Sq (Bk ?_)
      obtain ⟨r21,hr21,hm⟩ := bo hm
      refine Sq (RD hnt (nn 5 (o16 [] true r21 :: nn 6 [])) [50] [(11,rr 1088)] [] [(1088,bx (pm (Ak r21.1)))] (an (nn0 k1) (an (ltc hlt1) (an (by omega : k1 < r9.length) (an (Cg p0 (r9.getD k1 0) r21 hr21) tv)))) ?_)
      refine Sq (RD hnt (nn 3 []) [11] [(64,pB (r21.1.kind == 1))] [1088] [] tv ?_)
      refine Ah hm ?_ ?_
      ·intro h22 hm
       refine Sq (RK hnt (.no :: []) [(4,pI 1)] [] tv ?_)
       obtain rfl := sj hm
       exact DW.ret (Ai [] [] (pI 1))
      ·intro h22 hm
       refine Sk ?_
       refine DW.done ?_
       show DW _ _ _ _ _
       refine RD hnt (nn 3 []) [64] [(10,pI (w64 (((k1 : Nat) : Int) + 1)))] [] [] tv ?_
       exact jD () ⟨hlt1,hm⟩ (Conv.tp [(10,pI (w64 (((k1 : Nat) : Int) + 1)))] [] (by kernel_rfl) (.cons rfl (.of_eq (congrArg pI (Bj hlt1 hc1))) .nil) .nil)
     ·intro h20
      have hge1 : ¬ k1 < r9.length := by have := of_decide_eq_false h20; omega
      have hm := he1 hge1
      unfold AfT at hm
      refine DW.exit ?_
      refine Ap ?_
      refine Au ?_
      refine An ?_
      show DW _ _ _ _ _
      refine Sq (RK hnt (.no :: []) [(4,pI 0)] [] tv ?_)
      obtain rfl := sj hm
      exact DW.ret (Ai [] [] (pI 0))
   ·rcases bt r4.2 with h5 | h5
    ·replace hm := Ay h5 hm
     rcases bt (r4.1.kind == 1) with h6 | h6
     ·replace hm := Ay h6 hm
      refine RD hnt (nn 6 (sk 5 (pT :: pT :: []))) [7,8] [(43,pB true)] [1056] [] (an4 h5 (an5 h6 (an h5 (an h6 (an h5 tv))))) ?_
      exact jD true hm Conv.eqK
     ·replace hm := Az h6 hm
      obtain ⟨r7,hr7,hm⟩ := bo hm
      refine RD hnt (nn 9 (.call 68 [] true (pI r7) [] [] :: .no :: pF :: pT :: [])) [7,8] [(43,pB (r7 == 3))] [1056] [] (an4 h5 (an4 h6 (an (ih p0 r4.1.id r7 hr7) (an h6 (an h5 (an h6 (an h5 tv))))))) ?_
      exact jD (r7 == 3) hm Conv.eqK
    ·replace hm := Az h5 hm
     refine RD hnt (nn 2 (sk 10 (pF :: []))) [7,8] [(43,pB false)] [1056] [] (an6 h5 tv) ?_
     exact jD false hm Conv.eqK
theorem Adm : ∀ (n : Nat) (p0 : Ae) (p1 : Int) (RES : Int),Hx n p0 p1 = some RES → Spec Tryz.prog 68 [.p (.agg (Aj p0)),pI p1] [] (pI RES) [] []
  | 0,p0,p1,RES,hm => by simp [Hx] at hm
  | n + 1,p0,p1,RES,hm => Aig (Hx n) (Adm n) p0 p1 RES hm
theorem Hy (p0 : Ae) (p1 : Int) (RES : Int) (hm : Jq p0 p1 = some RES) : Spec Tryz.prog 68 [.p (.agg (Aj p0)),pI p1] [] (pI RES) [] [] := Adm Fu p0 p1 RES hm
abbrev o23 (ks : List Nat) (b : Bool) (RES : Int) : Orc := .call 68 ks b (pI RES) [] []

abbrev c7e1 (p0 : Aa) (k4 : Nat) := (p0.tree.nodes.getD k4 (default : Ag))
abbrev c7e2 (p0 : Aa) : Nat × Obj := (1008,bx (pm (Ab p0)))
theorem Ia (p0 : Aa) (RES : Bool) (hm : Gb p0 = some RES) : Spec Tryz.prog 23 [.p (.agg (Ab p0))] [] (pB RES) [] [] := by
 unfold Gb at hm
 refine SO Tryz.func23 rfl rfl [(0,.p (.agg (Ab p0)))] [] ?_
 intro cx hnt
 refine Sq (RK hnt (nn 2 []) [(1,rr 1008)] [(c7e2 p0)] tv ?_)
 obtain ⟨r1,hr1,hm⟩ := bo hm
 refine Sq (Sq (RD hnt (.no :: o8 [] true r1 :: .no :: []) [] [(16,pB (!r1))] [] [] (an (Qd p0 r1 hr1) tv) ?_))
 refine Ah hm ?_ ?_
 ·intro h2 hm
  refine Sq (RK hnt (.no :: []) [(2,pB false)] [] tv ?_)
  obtain rfl := sj hm
  exact DW.ret (Ai [] [] (pB false))
 ·intro h2 hm
  refine Sk ?_
  refine Sq (Sq (RD hnt (.no :: []) [16] [(3,pI 0)] [] [] tv ?_))
  refine Bk ?_
  obtain ⟨hc1,hm⟩ := go1 hm
  refine DW.rangeO (fun (k1 : Nat) (s1 : Unit) => Al [(1,rr 1008),(3,pI ((k1 : Nat) : Int))] [(c7e2 p0)]) Ba hm Conv.eqK ?_
  intro k1 s1 n1 hk1 hs1 he1
  refine Sq (Sq (RD hnt (nn 5 []) [] [(21,pB (decide (((k1 : Nat) : Int) < ((p0.tasks.length : Nat) : Int))))] [] [] tv ?_))
  refine Bx (decide (((k1 : Nat) : Int) < ((p0.tasks.length : Nat) : Int))) ?_ ?_
  ·intro h99
   have hlt1 : k1 < p0.tasks.length := by have := of_decide_eq_true h99; omega
   have hm := hs1 hlt1
   unfold Zl at hm
   refine Sk ?_
   refine Sq (Bk ?_)
   obtain ⟨r100,hr100,hm⟩ := bo hm
   refine Sq (RD hnt (nn 7 (o20 [] true r100 :: nn 6 [])) [21] [(4,rr 1032)] [] [(1032,bx (pm (Ao r100.1)))] (an (nn0 k1) (an (ltc hlt1) (an (Rn p0 (p0.tasks.getD k1 (default : Am)).process r100 hr100) tv))) ?_)
   obtain ⟨r101,hr101,hm⟩ := bo hm
   refine Sq (RD hnt (nn 8 (o21 [] true r101 :: nn 5 [])) [] [(6,pI r101.1)] [] [] (an (nn0 k1) (an (ltc hlt1) (an (Sf p0.tree (p0.tasks.getD k1 (default : Am)).group r101 hr101) tv))) ?_)
   obtain ⟨r102,hr102,hm⟩ := bo hm
   refine Sq (RD hnt (nn 4 (o21 [] true r102 :: nn 5 [])) [4] [(8,pI r102.1)] [1032] [] (an (Sf p0.tree r100.1.group r102 hr102) tv) ?_)
   refine Sq (RD hnt (nn 3 []) [6,8] [(57,pB (r101.1 != r102.1))] [] [] tv ?_)
   refine Ah hm ?_ ?_
   ·intro h103 hm
    refine Sq (RK hnt (.no :: []) [(2,pB false)] [] tv ?_)
    obtain rfl := sj hm
    exact DW.ret (Ai [] [] (pB false))
   ·intro h103 hm
    refine Sk ?_
    refine DW.done ?_
    show DW _ _ _ _ _
    refine RD hnt (nn 3 []) [57] [(3,pI (w64 (((k1 : Nat) : Int) + 1)))] [] [] tv ?_
    exact jD () ⟨hlt1,hm⟩ (Conv.tp [(3,pI (w64 (((k1 : Nat) : Int) + 1)))] [] (by kernel_rfl) (.cons rfl (.of_eq (congrArg pI (Bj hlt1 hc1))) .nil) .nil)
  ·intro h99
   have hge1 : ¬ k1 < p0.tasks.length := by have := of_decide_eq_false h99; omega
   have hm := he1 hge1
   unfold Zb at hm
   refine DW.exit ?_
   refine Ap ?_
   refine Au ?_
   refine An ?_
   show DW _ _ _ _ _
   refine Sq (Sq (RD hnt (.no :: []) [3,21] [(10,pI 0)] [] [] tv ?_))
   refine Bk ?_
   obtain ⟨hc4,hm⟩ := go1 hm
   refine DW.rangeO (fun (k4 : Nat) (s4 : Unit) => Al [(1,rr 1008),(10,pI ((k4 : Nat) : Int))] [(c7e2 p0)]) Ar hm Conv.eqK ?_
   intro k4 s4 n4 hk4 hs4 he4
   refine Sq (Sq (RD hnt (nn 6 []) [] [(63,pB (decide (((k4 : Nat) : Int) < ((p0.tree.nodes.length : Nat) : Int))))] [] [] tv ?_))
   refine Bx (decide (((k4 : Nat) : Int) < ((p0.tree.nodes.length : Nat) : Int))) ?_ ?_
   ·intro h132
    have hlt4 : k4 < p0.tree.nodes.length := by have := of_decide_eq_true h132; omega
    have hm := hs4 hlt4
    unfold Zn at hm
    refine Sk ?_
    refine Sq (Bk ?_)
    refine Sq (RD hnt (nn 8 []) [63] [(11,rr 1088)] [] [(1088,bx (pm (Ak (c7e1 p0 k4))))] (an (nn0 k4) (an (ltc hlt4) tv)) ?_)
    obtain ⟨r133,hr133,hm⟩ := bo hm
    refine Sq (RD hnt (nn 4 (o16 [] true r133 :: nn 6 [])) [] [(12,rr 1096)] [] [(1096,bx (pm (Ak r133.1)))] (an (Cg p0.tree (c7e1 p0 k4).parent r133 hr133) tv) ?_)
    obtain ⟨r134,hr134,hm⟩ := bo hm
    refine Sq (Sq ?_)
    refine Jn (ι := Bool) (fun (y17 : Bool) => Al [(1,rr 1008),(10,pI ((k4 : Nat) : Int)),(11,rr 1088),(12,rr 1096),(98,pB y17)] [(c7e2 p0),(1088,bx (pm (Ak (c7e1 p0 k4)))),(1096,bx (pm (Ak r133.1)))]) (fun y17 => (Je p0 (c7e1 p0 k4) n4 r133) y17 = some RES) ?_ ?_
    ·intro y17 hm
     unfold Je at hm
     refine Ah hm ?_ ?_
     ·intro h138 hm
      refine Sq (RK hnt (.no :: []) [(2,pB false)] [] tv ?_)
      obtain rfl := sj hm
      exact DW.ret (Ai [] [] (pB false))
     ·intro h138 hm
      refine Sk ?_
      refine Sq ?_
      refine Jn (ι := Bool) (fun (y18 : Bool) => Al [(1,rr 1008),(10,pI ((k4 : Nat) : Int)),(120,pB y18)] [(c7e2 p0)]) (fun y18 => (Hr n4) y18 = some RES) ?_ ?_
      ·intro y18 hm
       unfold Hr at hm
       refine Ah hm ?_ ?_
       ·intro h144 hm
        refine Sq (RK hnt (.no :: []) [(2,pB false)] [] tv ?_)
        obtain rfl := sj hm
        exact DW.ret (Ai [] [] (pB false))
       ·intro h144 hm
        refine Sk ?_
        refine DW.done ?_
        show DW _ _ _ _ _
        refine RD hnt (nn 3 []) [120] [(10,pI (w64 (((k4 : Nat) : Int) + 1)))] [] [] tv ?_
        exact jD () ⟨hlt4,hm⟩ (Conv.tp [(10,pI (w64 (((k4 : Nat) : Int) + 1)))] [] (by kernel_rfl) (.cons rfl (.of_eq (congrArg pI (Bj hlt4 hc4))) .nil) .nil)
      ·rcases bt ((c7e1 p0 k4).kind == 1) with h139 | h139
       ·replace hm := Ay h139 hm
        rcases bt (r133.1.id != 1) with h140 | h140
        ·replace hm := Ay h140 hm
         rcases bt ((kand .i64 r133.1.control 6) != 0) with h141 | h141
         ·replace hm := Ay h141 hm
          refine RD hnt (nn 12 (pT :: .no :: sk 6 (pT :: pT :: []))) [11,12,98] [(120,pB true)] [1088,1096] [] (an4 h139 (an4 h140 (an h139 (an h140 (an h139 (an6 h141 (an h139 (an h141 (an h139 tv))))))))) ?_
          exact jD true hm Conv.eqK
         ·replace hm := Az h141 hm
          obtain ⟨r142,hr142,hm⟩ := bo hm
          refine RD hnt (nn 12 (pT :: nn 5 (o23 [] true r142 :: .no :: pF :: pT :: []))) [11,12,98] [(120,pB (r142 == 3))] [1088,1096] [] (an4 h139 (an4 h140 (an h139 (an h140 (an h139 (an5 h141 (an (Hy p0.tree r133.1.id r142 hr142) (an h141 (an h139 (an h141 (an h139 tv))))))))))) ?_
          exact jD (r142 == 3) hm Conv.eqK
        ·replace hm := Az h140 hm
         obtain ⟨r143,hr143,hm⟩ := bo hm
         refine RD hnt (nn 8 (sk 4 (pF :: nn 5 (o23 [] true r143 :: .no :: pF :: pT :: [])))) [11,12,98] [(120,pB (r143 == 3))] [1088,1096] [] (an4 h139 (an4 h140 (an h139 (an h140 (an h139 (an5 ff (an (Hy p0.tree r133.1.id r143 hr143) (an ff (an h139 (an ff (an h139 tv))))))))))) ?_
         exact jD (r143 == 3) hm Conv.eqK
       ·replace hm := Az h139 hm
        refine RD hnt (nn 4 (sk 17 (pF :: []))) [11,12,98] [(120,pB false)] [1088,1096] [] (an2 h139 (an6 h139 tv)) ?_
        exact jD false hm Conv.eqK
    ·rcases bt (r134 == 3) with h135 | h135
     ·replace hm := Ay h135 hm
      rcases bt ((c7e1 p0 k4).control != 0) with h136 | h136
      ·replace hm := Ay h136 hm
       refine RD hnt (nn 4 (o23 [] true r134 :: nn 6 (sk 6 (pT :: pT :: [])))) [] [(98,pB true)] [] [] (an (Hy p0.tree (c7e1 p0 k4).id r134 hr134) (an4 h135 (an6 h136 (an h135 (an h136 (an h135 tv)))))) ?_
       exact jD true hm Conv.eqK
      ·replace hm := Az h136 hm
       obtain ⟨r137,hr137,hm⟩ := bo hm
       refine RD hnt (nn 4 (o23 [] true r134 :: nn 9 (o19 [] true r137 :: nn 2 (pF :: pT :: [])))) [] [(98,pB (decide (((r137.length : Nat) : Int) > 0)))] [] [] (an (Hy p0.tree (c7e1 p0 k4).id r134 hr134) (an4 h135 (an4 h136 (an (Jz p0 (c7e1 p0 k4).id r137 hr137) (an2 h136 (an h135 (an h136 (an h135 tv)))))))) ?_
       exact jD (decide (((r137.length : Nat) : Int) > 0)) hm Conv.eqK
     ·replace hm := Az h135 hm
      refine RD hnt (nn 4 (o23 [] true r134 :: nn 2 (sk 11 (pF :: [])))) [] [(98,pB false)] [] [] (an (Hy p0.tree (c7e1 p0 k4).id r134 hr134) (an6 h135 tv)) ?_
      exact jD false hm Conv.eqK
   ·intro h132
    have hge4 : ¬ k4 < p0.tree.nodes.length := by have := of_decide_eq_false h132; omega
    have hm := he4 hge4
    unfold AfZ at hm
    refine DW.exit ?_
    refine Ap ?_
    refine Au ?_
    refine An ?_
    show DW _ _ _ _ _
    refine Sq (RK hnt (.no :: []) [(2,pB true)] [] tv ?_)
    obtain rfl := sj hm
    exact DW.ret (Ai [] [] (pB true))
abbrev o7 (ks : List Nat) (b : Bool) (RES : Bool) : Orc := .call 23 ks b (pB RES) [] []

theorem Yk (p0 : Ae) (p1 : Int) (RES : Int) (hm : Ws p0 p1 = some RES) : Spec Tryz.prog 119 [.p (.agg (Aj p0)),pI p1] [] (pI RES) [] [] := by
 unfold Ws at hm
 refine SO Tryz.func119 rfl rfl [(0,.p (.agg (Aj p0))),(1,pI p1)] [] ?_
 intro cx hnt
 refine Sq (RK hnt (nn 2 []) [(1,pI p1),(2,rr 1016)] [(1016,bx (pm (Aj p0)))] tv ?_)
 obtain ⟨r1,hr1,hm⟩ := bo hm
 refine Sq (RK hnt (nn 2 (o22 [] true r1 :: nn 3 [])) [(4,pI (w64 (((r1.length : Nat) : Int) - 1)))] [] (an (Tb p0 p1 r1 hr1) tv) ?_)
 obtain rfl := sj hm
 exact DW.ret (Ai [] [] (pI (w64 (((r1.length : Nat) : Int) - 1))))
abbrev o26 (ks : List Nat) (b : Bool) (RES : Int) : Orc := .call 119 ks b (pI RES) [] []

theorem Vu (p0 : Ae) (RES : Ae) (hm : Qn p0 = some RES) : Spec Tryz.prog 85 [.p (.agg (Aj p0))] [] (.agg [ow 0 RES.nodes.length,pI RES.next]) [] [Ac RES.nodes] := by
 unfold Qn at hm
 refine SO Tryz.func85 rfl rfl [(0,.p (.agg (Aj p0)))] [] ?_
 intro cx hnt
 refine Sq (RK hnt (nn 2 []) [(1,rr 1008),(2,rr 1016)] [(1008,bx (pm (Aj p0))),(1016,bx [.p (.sl .nil 0 0 (fun _ => [])),pI 0])] tv ?_)
 obtain ⟨g1,hm⟩ := go1 hm
 refine Sq (RN hnt (nn 7 []) [(2,rr 1016)] [(1016,bx [ow 1040 p0.nodes.length,pI p0.next]),(1040,ob0 (Ac p0.nodes))] [] [(1040,.row 6 p0.nodes.length (Il p0.nodes))] (an (by omega : p0.nodes.length * 56 ≤ 140737488355328) tv) (by kernel_rfl) .nil (.cons rfl (BLe.typed RowIs.elems) .nil) ?_)
 obtain rfl := sj hm
 exact DW.ret (Ai [Ac p0.nodes] [1040] (.agg [ow 0 p0.nodes.length,pI p0.next]))
abbrev o27 (ks : List Nat) (b : Bool) (RES : Ae) : Orc := .call 85 ks b (.agg [ow 0 RES.nodes.length,pI RES.next]) [] [Ac RES.nodes]

abbrev AcD (p0 : Ae) (p1 : Int) (p2 : ByteArray) := ({ id := p0.next,parent := p1,name := p2,control := 0,kind := 0,owner := 0 } : Ag)
abbrev AfA : Nat × Obj := (1048,bx [.p (.sl .nil 0 0 (fun _ => [])),pI 0])
abbrev Afx (p0 : Ae) : Nat × Obj := (1024,bx (pm (Aj p0)))
abbrev c25e4 : Nat × Obj := (1048,bx [ow 100000 0,pI 0])
theorem Aeu (p0 : Ae) (p1 : Int) (p2 : ByteArray) (RES : Ae × Int × Int) (hm : Yl p0 p1 p2 = some RES) : Spec Tryz.prog 73 [.p (.agg (Aj p0)),pI p1,pS p2] [] (.tup [.agg [ow 0 RES.1.nodes.length,pI RES.1.next],pI RES.2.1,pI RES.2.2]) [] [Ac RES.1.nodes] := by
 unfold Yl at hm
 refine SO Tryz.func73 rfl rfl [(0,.p (.agg (Aj p0))),(1,pI p1),(2,pS p2)] [] ?_
 intro cx hnt
 refine Sq (RD hnt (nn 4 []) [0] [(3,rr 1024),(6,rr 1048)] [] [(Afx p0),(AfA)] tv ?_)
 obtain ⟨r1,hr1,hm⟩ := bo hm
 refine Sq (Sq ?_)
 refine Jn (ι := Bool) (fun (y1 : Bool) => Al [(1,pI p1),(2,pS p2),(3,rr 1024),(6,rr 1048),(18,pB y1)] [(Afx p0),(AfA)]) (fun y1 => (Xr p0 p1 p2) y1 = some RES) ?_ ?_
 ·intro y1 hm
  unfold Xr at hm
  refine Ah hm ?_ ?_
  ·intro h4 hm
   refine Sq (RD hnt (nn 4 []) [1,2,3,18] [(7,pI 0),(8,pI 1)] [1024] [] tv ?_)
   refine DW.cv [] [] [] [(c25e4),(100000,ob0 (Ac []))] (Conv.ads [(.o 1048 0,100000,6,elems Ak Ar [])]) ?_
   obtain rfl := sj hm
   exact DW.ret (Ai [Ac []] [100000] (.tup [.agg [ow 0 0,pI 0],pI 0,pI 1]))
  ·intro h4 hm
   refine Sk ?_
   obtain ⟨r5,hr5,hm⟩ := bo hm
   refine Sq (Sq (RD hnt (nn 2 (o15 [] true r5 :: .no :: [])) [18] [(23,pB (!r5))] [] [] (an (Df p0 p1 r5 hr5) tv) ?_))
   refine Ah hm ?_ ?_
   ·intro h6 hm
    refine Sq (RD hnt (nn 4 []) [1,2,3,23] [(7,pI 0),(8,pI 4)] [1024] [] tv ?_)
    refine DW.cv [] [] [] [(c25e4),(100000,ob0 (Ac []))] (Conv.ads [(.o 1048 0,100000,6,elems Ak Ar [])]) ?_
    obtain rfl := sj hm
    exact DW.ret (Ai [Ac []] [100000] (.tup [.agg [ow 0 0,pI 0],pI 0,pI 4]))
   ·intro h6 hm
    refine Sk ?_
    refine Sq (Sq (RD hnt (.no :: []) [23] [(9,pI 0)] [] [] tv ?_))
    refine Bk ?_
    obtain ⟨hc1,hm⟩ := go1 hm
    refine DW.rangeO (fun (k1 : Nat) (s1 : Unit) => Al [(1,pI p1),(2,pS p2),(3,rr 1024),(6,rr 1048),(9,pI ((k1 : Nat) : Int))] [(Afx p0),(AfA)]) Ar hm Conv.eqK ?_
    intro k1 s1 n1 hk1 hs1 he1
    refine Sq (Sq (RD hnt (nn 5 []) [] [(29,pB (decide (((k1 : Nat) : Int) < ((p0.nodes.length : Nat) : Int))))] [] [] tv ?_))
    refine Bx (decide (((k1 : Nat) : Int) < ((p0.nodes.length : Nat) : Int))) ?_ ?_
    ·intro h29
     have hlt1 : k1 < p0.nodes.length := by have := of_decide_eq_true h29; omega
     have hm := hs1 hlt1
     unfold Adw at hm
     refine Sk ?_
     refine Sq (Bk ?_)
     refine Sq (DW.regJ (sl2 := [(1,pI p1),(2,pS p2),(3,rr 1024),(6,rr 1048),(9,pI ((k1 : Nat) : Int)),(49,pB (((p0.nodes.getD k1 (default : Ag)).parent == p1) && (Co (p0.nodes.getD k1 (default : Ag)).name p2)))]) (ob2 := [(Afx p0),(AfA)]) ?_ ?_)
     ·rcases bt ((p0.nodes.getD k1 (default : Ag)).parent == p1) with h30 | h30
      ·exact RT hnt (nn 17 (pT :: [])) [(49,pB (Co (p0.nodes.getD k1 (default : Ag)).name p2))] (an (nn0 k1) (an (ltc hlt1) (an4 h30 (an (nn0 k1) (an (ltc hlt1) (an5 h30 tv)))))) (by kernel_rfl) (.cons rfl (.of_eq (by rw [h30]; try rfl)) .nil)
      ·exact RT hnt (nn 9 (sk 8 (pF :: []))) [(49,pB false)] (an (nn0 k1) (an (ltc hlt1) (an3 h30 (an6 h30 tv)))) (by kernel_rfl) (.cons rfl (.of_eq (by rw [h30]; try rfl)) .nil)
     ·refine Ah hm ?_ ?_
      ·intro h31 hm
       refine Sq (RD hnt (nn 4 []) [1,2,3,9,49] [(7,pI 0),(8,pI 5)] [1024] [] tv ?_)
       refine DW.cv [] [] [] [(c25e4),(100000,ob0 (Ac []))] (Conv.ads [(.o 1048 0,100000,6,elems Ak Ar [])]) ?_
       obtain rfl := sj hm
       exact DW.ret (Ai [Ac []] [100000] (.tup [.agg [ow 0 0,pI 0],pI 0,pI 5]))
      ·intro h31 hm
       refine Sk ?_
       refine DW.done ?_
       show DW _ _ _ _ _
       refine RD hnt (nn 3 []) [49] [(9,pI (w64 (((k1 : Nat) : Int) + 1)))] [] [] tv ?_
       exact jD () ⟨hlt1,hm⟩ (Conv.tp [(9,pI (w64 (((k1 : Nat) : Int) + 1)))] [] (by kernel_rfl) (.cons rfl (.of_eq (congrArg pI (Bj hlt1 hc1))) .nil) .nil)
    ·intro h29
     have hge1 : ¬ k1 < p0.nodes.length := by have := of_decide_eq_false h29; omega
     have hm := he1 hge1
     unfold AdB at hm
     refine DW.exit ?_
     refine Ap ?_
     refine Au ?_
     refine An ?_
     show DW _ _ _ _ _
     obtain ⟨r32,hr32,hm⟩ := bo hm
     refine Sq (Sq ?_)
     refine Jn (ι := Bool) (fun (y6 : Bool) => Al [(1,pI p1),(2,pS p2),(3,rr 1024),(6,rr 1048),(65,pB y6)] [(Afx p0),(AfA)]) (fun y6 => (Qv p0 p1 p2) y6 = some RES) ?_ ?_
     ·intro y6 hm
      unfold Qv at hm
      refine Ah hm ?_ ?_
      ·intro h35 hm
       refine Sq (RD hnt (nn 4 []) [1,2,3,65] [(7,pI 0),(8,pI 7)] [1024] [] tv ?_)
       refine DW.cv [] [] [] [(c25e4),(100000,ob0 (Ac []))] (Conv.ads [(.o 1048 0,100000,6,elems Ak Ar [])]) ?_
       obtain rfl := sj hm
       exact DW.ret (Ai [Ac []] [100000] (.tup [.agg [ow 0 0,pI 0],pI 0,pI 7]))
      ·intro h35 hm
       refine Sk ?_
       obtain ⟨r36,hr36,hm⟩ := bo hm
       refine Sq (RD hnt (.no :: o27 [] true r36 :: nn 2 []) [65] [(10,rr 1080)] [] [(1080,bx [ow 1544 r36.nodes.length,pI r36.next]),(1544,ob0 (Ac r36.nodes))] (an (Vu p0 r36 hr36) tv) ?_)
       obtain ⟨g37,hm⟩ := go1 hm
       refine Sq (RN hnt (nn 11 []) [(3,rr 1024),(6,rr 1048),(10,rr 1080)] [(Afx p0),(AfA),(1080,bx [ow 1544 (r36.nodes ++ [(AcD p0 p1 p2)]).length,pI r36.next]),(1544,ob0 (Ac (r36.nodes ++ [(AcD p0 p1 p2)])))] [] [(1080,.box [ow 1544 (r36.nodes.length + 1),pI r36.next]),(1544,.row 6 (r36.nodes.length + 1) (Ef r36.nodes.length (Il r36.nodes) (cut 6 [vi p0.next,vi p1,vs p2,vi 0,vi 0,vi 0])))] (an (by omega : (r36.nodes.length + 1) * 56 ≤ 140737488355328) tv) (by kernel_rfl) .nil (.cons rfl (.box (.cons (MLe.ownLen (enc := Ak) (d := Ar) (f := (Ef r36.nodes.length (Il r36.nodes) (cut 6 [vi p0.next,vi p1,vs p2,vi 0,vi 0,vi 0]))) (RowIs.cat RowIs.elems (RowIs.lit (enc := Ak) (d := Ar) (n := 1) (f := (cut 6 [vi p0.next,vi p1,vs p2,vi 0,vi 0,vi 0])) [(AcD p0 p1 p2)] rfl (fun | 0,_ => rfl | n + 1,h => absurd h (by omega))))) (.cons .rfl .nil))) (.cons rfl (BLe.typed (RowIs.cat RowIs.elems (RowIs.lit (enc := Ak) (d := Ar) (n := 1) (f := (cut 6 [vi p0.next,vi p1,vs p2,vi 0,vi 0,vi 0])) [(AcD p0 p1 p2)] rfl (fun | 0,_ => rfl | n + 1,h => absurd h (by omega))))) .nil)) ?_)
       refine Sq (RD hnt (nn 5 []) [] [] [] [(1080,bx [ow 1544 (r36.nodes ++ [(AcD p0 p1 p2)]).length,pI (w64 (r36.next + 1))])] tv ?_)
       refine Sq (RD hnt (nn 6 []) [3,10] [(7,pI p0.next),(8,pI 0)] [1024,1080] [(1048,bx [ow 1544 (r36.nodes ++ [(AcD p0 p1 p2)]).length,pI (w64 (r36.next + 1))])] tv ?_)
       obtain rfl := sj hm
       exact DW.ret (Ai [Ac (r36.nodes ++ [(AcD p0 p1 p2)])] [1544] (.tup [.agg [ow 0 (r36.nodes ++ [(AcD p0 p1 p2)]).length,pI (w64 (r36.next + 1))],pI p0.next,pI 0]))
     ·rcases bt (decide (r32 ≥ 8)) with h33 | h33
      ·replace hm := Ay h33 hm
       refine RD hnt (nn 2 (o26 [] true r32 :: nn 2 (sk 4 (pT :: .no :: sk 3 (pT :: []))))) [9,29] [(65,pB true)] [] [] (an (Yk p0 p1 r32 hr32) (an5 h33 (an4 tt tv))) ?_
       exact jD true hm Conv.eqK
      ·replace hm := Az h33 hm
       rcases bt (decide (((p0.nodes.length : Nat) : Int) ≥ 64)) with h34 | h34
       ·replace hm := Ay h34 hm
        refine RD hnt (nn 2 (o26 [] true r32 :: nn 6 (pF :: .no :: sk 3 (pT :: [])))) [9,29] [(65,pB true)] [] [] (an (Yk p0 p1 r32 hr32) (an5 h33 (an4 h34 tv))) ?_
        exact jD true hm Conv.eqK
       ·replace hm := Az h34 hm
        refine RD hnt (nn 2 (o26 [] true r32 :: nn 6 (pF :: nn 4 (pF :: [])))) [9,29] [(65,pB (decide (p0.next > 2147483647)))] [] [] (an (Yk p0 p1 r32 hr32) (an5 h33 (an4 h34 tv))) ?_
        exact jD (decide (p0.next > 2147483647)) hm Conv.eqK
 ·rcases bt (!r1) with h2 | h2
  ·replace hm := Ay h2 hm
   refine RD hnt (.no :: o10 [] true r1 :: nn 2 (sk 3 (pT :: []))) [] [(18,pB true)] [] [] (an (Fx p0 r1 hr1) (an4 h2 tv)) ?_
   exact jD true hm Conv.eqK
  ·replace hm := Az h2 hm
   obtain ⟨r3,hr3,hm⟩ := bo hm
   refine RD hnt (.no :: o10 [] true r1 :: nn 3 (o12 [] true r3 :: .no :: pF :: [])) [] [(18,pB (!r3))] [] [] (an (Fx p0 r1 hr1) (an2 h2 (an (Adb p2 r3 hr3) (an2 h2 tv)))) ?_
   exact jD (!r3) hm Conv.eqK
abbrev o25 (ks : List Nat) (b : Bool) (RES : Ae × Int × Int) : Orc := .call 73 ks b (.tup [.agg [ow 0 RES.1.nodes.length,pI RES.1.next],pI RES.2.1,pI RES.2.2]) [] [Ac RES.1.nodes]

theorem Rf (p0 : Aa) (RES : Aa) (hm : Og p0 = some RES) : Spec Tryz.prog 47 [.p (.agg (Ab p0))] [] (.agg [ow 0 RES.tree.nodes.length,pI RES.tree.next,ow 1 RES.tasks.length,pI RES.next]) [] [Ac RES.tree.nodes,Af RES.tasks] := by
 unfold Og at hm
 refine SO Tryz.func47 rfl rfl [(0,.p (.agg (Ab p0)))] [] ?_
 intro cx hnt
 refine Sq (RK hnt (nn 2 []) [(1,rr 1008),(2,rr 1016)] [(1008,bx (pm (Ab p0))),(1016,bx [.p (.sl .nil 0 0 (fun _ => [])),pI 0,.p (.sl .nil 0 0 (fun _ => [])),pI 0])] tv ?_)
 obtain ⟨r1,hr1,hm⟩ := bo hm
 obtain ⟨g2,hm⟩ := go1 hm
 refine Sq (RN hnt (nn 2 (o27 [] true r1 :: nn 7 [])) [(2,rr 1016)] [(1016,bx [ow 1040 r1.nodes.length,pI r1.next,ow 1064 p0.tasks.length,pI p0.next]),(1040,ob0 (Ac r1.nodes)),(1064,ob0 (Af p0.tasks))] [] [(1064,.row 4 p0.tasks.length (Vh p0.tasks))] (an (Vu p0.tree r1 hr1) (an (by omega : p0.tasks.length * 32 ≤ 140737488355328) tv)) (by kernel_rfl) .nil (.cons rfl (BLe.typed RowIs.elems) .nil) ?_)
 obtain rfl := sj hm
 exact DW.ret (Ai [Ac r1.nodes,Af p0.tasks] [1040,1064] (.agg [ow 0 r1.nodes.length,pI r1.next,ow 1 p0.tasks.length,pI p0.next]))
abbrev o28 (ks : List Nat) (b : Bool) (RES : Aa) : Orc := .call 47 ks b (.agg [ow 0 RES.tree.nodes.length,pI RES.tree.next,ow 1 RES.tasks.length,pI RES.next]) [] [Ac RES.tree.nodes,Af RES.tasks]

theorem Ahe (p0 : Aa) (p1 : Int) (p2 : ByteArray) (RES : Aa × Int × Int) (hm : AcJ p0 p1 p2 = some RES) : Spec Tryz.prog 29 [.p (.agg (Ab p0)),pI p1,pS p2] [] (.tup [.agg [ow 0 RES.1.tree.nodes.length,pI RES.1.tree.next,ow 1 RES.1.tasks.length,pI RES.1.next],pI RES.2.1,pI RES.2.2]) [] [Ac RES.1.tree.nodes,Af RES.1.tasks] := by
 unfold AcJ at hm
 refine SO Tryz.func29 rfl rfl [(0,.p (.agg (Ab p0))),(1,pI p1),(2,pS p2)] [] ?_
 intro cx hnt
 refine Sq (RD hnt (nn 4 []) [0] [(3,rr 1024),(6,rr 1048)] [] [(1024,bx (pm (Ab p0))),(1048,bx [.p (.sl .nil 0 0 (fun _ => [])),pI 0,.p (.sl .nil 0 0 (fun _ => [])),pI 0])] tv ?_)
 obtain ⟨r1,hr1,hm⟩ := bo hm
 refine Sq (Sq (RD hnt (.no :: o7 [] true r1 :: .no :: []) [] [(15,pB (!r1))] [] [] (an (Ia p0 r1 hr1) tv) ?_))
 refine Ah hm ?_ ?_
 ·intro h2 hm
  refine Sq (RD hnt (nn 4 []) [1,2,3,15] [(7,pI 0),(8,pI 1)] [1024] [] tv ?_)
  refine DW.cv [] [] [] [(1048,bx [ow 100000 0,pI 0,ow 100001 0,pI 0]),(100000,ob0 (Ac [])),(100001,ob0 (Af []))] (Conv.ads [(.o 1048 0,100000,6,elems Ak Ar []),(.o 1048 2,100001,4,elems Ao Ba [])]) ?_
  obtain rfl := sj hm
  exact DW.ret (Ai [Ac [],Af []] [100000,100001] (.tup [.agg [ow 0 0,pI 0,ow 1 0,pI 0],pI 0,pI 1]))
 ·intro h2 hm
  refine Sk ?_
  obtain ⟨r3,hr3,hm⟩ := bo hm
  refine Sq (RD hnt (nn 4 (o25 [] true r3 :: nn 8 [])) [1,2,15] [(9,rr 1072),(10,pI r3.2.1),(11,pI r3.2.2)] [] [(1072,bx [ow 1176 r3.1.nodes.length,pI r3.1.next]),(1176,ob0 (Ac r3.1.nodes))] (an (Aeu p0.tree p1 p2 r3 hr3) tv) ?_)
  refine Sq (Sq (RD hnt (nn 2 []) [] [(27,pB (r3.2.2 != 0))] [] [] tv ?_))
  refine Ah hm ?_ ?_
  ·intro h4 hm
   refine Sq (RD hnt (nn 5 []) [3,9,10,11,27] [(7,pI 0),(8,pI r3.2.2)] [1024,1072,1176] [] tv ?_)
   refine DW.cv [] [] [] [(1048,bx [ow 100000 0,pI 0,ow 100001 0,pI 0]),(100000,ob0 (Ac [])),(100001,ob0 (Af []))] (Conv.ads [(.o 1048 0,100000,6,elems Ak Ar []),(.o 1048 2,100001,4,elems Ao Ba [])]) ?_
   obtain rfl := sj hm
   exact DW.ret (Ai [Ac [],Af []] [100000,100001] (.tup [.agg [ow 0 0,pI 0,ow 1 0,pI 0],pI 0,pI r3.2.2]))
  ·intro h4 hm
   refine Sk ?_
   obtain ⟨r5,hr5,hm⟩ := bo hm
   refine Sq (RD hnt (.no :: o28 [] true r5 :: nn 2 []) [3,11,27] [(12,rr 1096)] [1024] [(1096,bx [ow 1248 r5.tree.nodes.length,pI r5.tree.next,ow 1249 r5.tasks.length,pI r5.next]),(1248,ob0 (Ac r5.tree.nodes)),(1249,ob0 (Af r5.tasks))] (an (Rf p0 r5 hr5) tv) ?_)
   refine Sq (RD hnt (nn 3 []) [9] [] [1072,1248] [(1096,bx [ow 1176 r3.1.nodes.length,pI r3.1.next,ow 1249 r5.tasks.length,pI r5.next])] tv ?_)
   refine Sq (RD hnt (nn 5 []) [10,12] [(7,pI r3.2.1),(8,pI 0)] [1096] [(1048,bx [ow 1176 r3.1.nodes.length,pI r3.1.next,ow 1249 r5.tasks.length,pI r5.next])] tv ?_)
   obtain rfl := sj hm
   exact DW.ret (Ai [Ac r3.1.nodes,Af r5.tasks] [1176,1249] (.tup [.agg [ow 0 r3.1.nodes.length,pI r3.1.next,ow 1 r5.tasks.length,pI r5.next],pI r3.2.1,pI 0]))
abbrev o6 (ks : List Nat) (b : Bool) (RES : Aa × Int × Int) : Orc := .call 29 ks b (.tup [.agg [ow 0 RES.1.tree.nodes.length,pI RES.1.tree.next,ow 1 RES.1.tasks.length,pI RES.1.next],pI RES.2.1,pI RES.2.2]) [] [Ac RES.1.tree.nodes,Af RES.1.tasks]

theorem AgV (p0 : Ag) (p1 : Int) (RES : Bool) (hm : AcK p0 p1 = some RES) : Spec Tryz.prog 121 [.p (.agg (Ak p0)),rr 0] [.box [pI p1]] (pB RES) [.box [pI p1]] [] := by
 unfold AcK at hm
 refine SO Tryz.func121 rfl rfl [(0,.p (.agg (Ak p0))),(1,rr 0)] [(0,bx [pI p1])] ?_
 intro cx hnt
 refine Sq (RD hnt (nn 2 []) [0] [(2,rr 1016)] [] [(1016,bx (pm (Ak p0)))] tv ?_)
 refine Sq (RK hnt (nn 5 []) [(3,pB (p0.id == p1))] [(0,bx [pI p1])] tv ?_)
 obtain rfl := sj hm
 exact DW.ret (Ai [.box [pI p1]] [] (pB (p0.id == p1)))

theorem Sl (p0 : List Ag) (p1c0 : Int) (RES : Int) (hm : Fd p0 p1c0 = some RES) : Spec Tryz.prog 120 [.p (Bf p0),.fn 121 [rr 0]] [.box [pI p1c0]] (pI RES) [.box [pI p1c0]] [] := by
 unfold Fd at hm
 refine SO Tryz.func120 rfl rfl [(0,.p (Bf p0)),(1,.fn 121 [rr 0])] [(0,bx [pI p1c0])] ?_
 intro cx hnt
 refine Sq (RD hnt (.no :: []) [] [] [] [] tv ?_)
 refine Sq (Sq (RD hnt (nn 3 []) [] [(7,pI ((p0.length : Nat) : Int)),(8,pI 0)] [] [] tv ?_))
 refine Bk ?_
 obtain ⟨hc1,hm⟩ := go1 hm
 refine DW.rangeO (fun (k1 : Nat) (s1 : Unit) => Al [(0,.p (Bf p0)),(1,.fn 121 [rr 0]),(7,pI ((p0.length : Nat) : Int)),(8,pI ((k1 : Nat) : Int))] [(0,bx [pI p1c0])]) Ar hm Conv.eqK ?_
 intro k1 s1 n1 hk1 hs1 he1
 refine Sq (RD hnt (.no :: []) [] [(9,pB (decide (((k1 : Nat) : Int) < ((p0.length : Nat) : Int))))] [] [] tv ?_)
 refine Sq (Bx (decide (((k1 : Nat) : Int) < ((p0.length : Nat) : Int))) ?_ ?_)
 ·intro h9
  have hlt1 : k1 < p0.length := by have := of_decide_eq_true h9; omega
  have hm := hs1 hlt1
  unfold Le at hm
  refine Sk ?_
  refine Sq (Bk ?_)
  refine Sq (RD hnt (nn 2 []) [9] [(5,pI ((k1 : Nat) : Int))] [] [] tv ?_)
  obtain ⟨r10,hr10,hm⟩ := bo hm
  refine Sq (RD hnt (nn 5 (.call 121 [0] true (pB r10) [.box [pI p1c0]] [] :: [])) [] [(16,pB r10)] [] [] (an (nn0 k1) (an (ltc hlt1) (an (AgV (p0.getD k1 (default : Ag)) p1c0 r10 hr10) (an tv tv)))) ?_)
  refine Ah hm ?_ ?_
  ·intro h11 hm
   refine Sq (RK hnt (nn 2 []) [(4,pI ((k1 : Nat) : Int))] [(0,bx [pI p1c0])] tv ?_)
   obtain rfl := sj hm
   exact DW.ret (Ai [.box [pI p1c0]] [] (pI ((k1 : Nat) : Int)))
  ·intro h11 hm
   refine Sk ?_
   refine DW.done ?_
   show DW _ _ _ _ _
   refine RD hnt (nn 2 []) [5,16] [(8,pI (w64 (((k1 : Nat) : Int) + 1)))] [] [] tv ?_
   exact jD () ⟨hlt1,hm⟩ (Conv.tp [(8,pI (w64 (((k1 : Nat) : Int) + 1)))] [] (by kernel_rfl) (.cons rfl (.of_eq (congrArg pI (Bj hlt1 hc1))) .nil) .nil)
 ·intro h9
  have hge1 : ¬ k1 < p0.length := by have := of_decide_eq_false h9; omega
  have hm := he1 hge1
  unfold Ld at hm
  refine DW.exit ?_
  refine Ap ?_
  refine Au ?_
  refine An ?_
  show DW _ _ _ _ _
  refine Sq (RK hnt (.no :: []) [(4,pI (-1))] [(0,bx [pI p1c0])] tv ?_)
  obtain rfl := sj hm
  exact DW.ret (Ai [.box [pI p1c0]] [] (pI (-1)))

theorem Fs (p0 : Ae) (p1 : Int) (RES : Int) (hm : Eb p0 p1 = some RES) : Spec Tryz.prog 75 [.p (.agg (Aj p0)),pI p1] [] (pI RES) [] [] := by
 unfold Eb at hm
 refine SO Tryz.func75 rfl rfl [(0,.p (.agg (Aj p0))),(1,pI p1)] [] ?_
 intro cx hnt
 refine Sq (RK hnt (nn 3 []) [(2,rr 1016),(3,rr 1024)] [(1016,bx (pm (Aj p0))),(1024,bx [pI p1])] tv ?_)
 obtain ⟨r1,hr1,hm⟩ := bo hm
 refine Sq (RK hnt (nn 3 (.call 120 [1024] true (pI r1) [.box [pI p1]] [] :: .no :: [])) [(4,pI r1)] [] (an (Sl p0.nodes p1 r1 hr1) (an tv tv)) ?_)
 obtain rfl := sj hm
 exact DW.ret (Ai [] [] (pI r1))
abbrev o30 (ks : List Nat) (b : Bool) (RES : Int) : Orc := .call 75 ks b (pI RES) [] []

theorem AiT (p0 : Ag) (RES : Bool) (hm : Acg p0 = some RES) : Spec Tryz.prog 122 [.p (.agg (Ak p0))] [] (pB RES) [] [] := by
 unfold Acg at hm
 refine SO Tryz.func122 rfl rfl [(0,.p (.agg (Ak p0)))] [] ?_
 intro cx hnt
 refine Sq (RK hnt (nn 2 []) [(1,rr 1008)] [(1008,bx (pm (Ak p0)))] tv ?_)
 refine Sq (DW.regJ (sl2 := [(2,pB ((((p0.id == 1) && (p0.parent == 0)) && (Co p0.name ByteArray.empty)) && (p0.kind == 0)))]) (ob2 := []) ?_ ?_)
 ·rcases bt (p0.id == 1) with h1 | h1
  ·rcases bt (p0.parent == 0) with h2 | h2
   ·rcases bt (Co p0.name ByteArray.empty) with h3 | h3
    ·exact RT hnt (nn 7 (pT :: nn 4 (pT :: nn 4 (pT :: .no :: [])))) [(2,pB (p0.kind == 0))] (an4 h1 (an4 h2 (an4 h3 tv))) (by kernel_rfl) (.cons rfl (.of_eq (by rw [h1,h2,h3]; try rfl)) .nil)
    ·exact RT hnt (nn 7 (pT :: nn 4 (pT :: .no :: sk 3 (pF :: .no :: [])))) [(2,pB false)] (an4 h1 (an4 h2 (an4 h3 tv))) (by kernel_rfl) (.cons rfl (.of_eq (by rw [h1,h2,h3]; try rfl)) .nil)
   ·exact RT hnt (nn 7 (pT :: .no :: sk 3 (pF :: .no :: sk 3 (pF :: .no :: [])))) [(2,pB false)] (an4 h1 (an4 h2 (an4 ff tv))) (by kernel_rfl) (.cons rfl (.of_eq (by rw [h1,h2]; try rfl)) .nil)
  ·exact RT hnt (nn 4 (sk 3 (pF :: .no :: sk 3 (pF :: .no :: sk 3 (pF :: .no :: []))))) [(2,pB false)] (an4 h1 (an2 ff (an6 ff tv))) (by kernel_rfl) (.cons rfl (.of_eq (by rw [h1]; try rfl)) .nil)
 ·refine DW.ret ?_
  obtain rfl := sj hm
  exact Ai [] [] (pB ((((p0.id == 1) && (p0.parent == 0)) && (Co p0.name ByteArray.empty)) && (p0.kind == 0)))
abbrev o34 (ks : List Nat) (b : Bool) (RES : Bool) : Orc := .call 122 ks b (pB RES) [] []
end Go.Dm

