/- Texts of the proof of FreezeStops: the data machine, the models of the Go functions, their contracts. -/
import Derived.Test.YtonaidnipimjgaaGreatFreezeStopsA2
import Derived.Test.YtonaidnipimjgaaGreatFreezeStopsA1
import Derived.Test.YtonaidnipimjgaaGreatProg
set_option linter.unusedVariables false
set_option linter.unusedSimpArgs false
/- Plain theory of freezers, part 2: what changes make of them. -/
namespace Go.Dm
theorem Ahf (l : List Int) (x : Int) (hl : l.length ≤ 9223372036854775807) : Ds l x = some (l.contains x) := by
 unfold Ds Lm
 rw [if_pos (by omega),Ru (p := fun y : Int => x == y) (fun k y n => rfl) rfl,Option.bind_some]
 rcases Te (fun y : Int => x == y) l 0 with ⟨i,h1,h2,h3⟩ | ⟨h1,h2⟩
 ·rw [h2]
  have hm := List.mem_of_find?_eq_some h3
  have he := List.find?_some h3
  have : l.contains x = true := by
   rw [List.contains_iff_mem]
   have : x = l.getD i 0 := by simpa using he
   rw [this]
   exact hm
  rw [this]
  simp
 ·rw [h1]
  have : l.contains x = false := by
   rw [List.find?_eq_none] at h2
   cases hc : l.contains x
   ·rfl
   ·rw [List.contains_iff_mem] at hc
    have := h2 x hc
    simp at this
  rw [this]
  simp
theorem Ahc (l : List Int) (x : Int) (hl : l.length ≤ 9223372036854775807) : Mk l x = some (l.contains x) := by
 unfold Mk
 rw [if_pos (by omega),Hy (p := fun y : Int => y == x) (f := fun _ => true) (z := false) (fun k y n => rfl) rfl]
 congr 1
 cases hf : l.find? (fun y => y == x) with
 | none =>
  rw [List.find?_eq_none] at hf
  cases hc : l.contains x
  ·rfl
  ·rw [List.contains_iff_mem] at hc
   have := hf x hc
   simp at this
 | some y =>
  have hm := List.mem_of_find?_eq_some hf
  have he := List.find?_some hf
  have : y = x := by simpa using he
  rw [this] at hm
  simp [hm]
theorem iff_t' {m : Option Bool} {p : Prop} (h : Ok m (fun b => b = true ↔ p)) (hp : p) : m = some true := Ok.eq (h.mono fun b hb => hb.mpr hp)
def zFr : Ac := { frosts := [],stopped := [] }
def thawF (h : Aa) (f : Ac) : Ac := { frosts := f.frosts,stopped := f.stopped.filter (wT h f) }
def Oa (h : Aa) (f : Ac) : List Int := (h.tasks.filter (fun x => f.stopped.contains x.id && wN h.tree f x.group)).map (·.id)
def Qo (id : Int) (b : Bool) (x : Al) : Al := if x.group == id then { group := x.group,want := b,frozen := x.frozen,changes := x.changes } else x
def To (f : Ac) (id : Int) (b : Bool) : Ac := { frosts := f.frosts.map (Qo id b),stopped := f.stopped }
def setF (h : Aa) (f : Ac) (id : Int) (b : Bool) : Ac := Kk h (thawF h (To f id b))
def Km (h : Aa) (f : Ac) (busy : List Int) : List Int := (h.tasks.filter (fun x => f.stopped.contains x.id || (wN h.tree f x.group && !busy.contains x.id))).map (·.id)
def Kq (h : Aa) (f : Ac) (busy : List Int) : Ac := Kk h { frosts := f.frosts,stopped := Km h f busy }
def adjX (f : Ac) (x : An) : Al := { group := x.id,want := (frN f x.id).want && (x.id != 1),frozen := (frN f x.id).frozen,changes := Rk (maxI (frN f x.id).changes 0) 1099511627776 }
def Wu (h : Aa) (f : Ac) : Ac := { frosts := h.tree.nodes.map (adjX f),stopped := f.stopped }
def adjF (h : Aa) (f : Ac) : Ac := Kk h { frosts := (Wu h f).frosts,stopped := Oa h (Wu h f) }
theorem frN_group (f : Ac) (g : Int) : (frN f g).group = g := by
 unfold frN
 cases e : f.frosts.find? (fun x => x.group == g) with
 | none => rfl
 | some x => simpa using List.find?_some e
section
variable {h : Aa} {f : Ac}
theorem map_at {α : Type} {g : α → α} {L : List α} {d : α} {j : Nat} (hj : j < L.length) : ((L.take j).map g ++ L.drop j).getD j d = L.getD j d ∧ ((L.take j).map g ++ L.drop j).set j (g (L.getD j d)) = (L.take (j + 1)).map g ++ L.drop (j + 1) ∧ ((L.take j).map g ++ L.drop j).length = L.length := by
 have hd : L.drop j = L[j] :: L.drop (j + 1) := List.drop_eq_getElem_cons hj
 have hml : ((L.take j).map g).length = j := by
  rw [List.length_map,List.length_take]
  omega
 have ht : L.take (j + 1) = L.take j ++ [L[j]] := by
  rw [List.take_add_one]
  simp [hj]
 refine ⟨?_,?_,by simp; omega⟩
 ·rw [hd,List.getD_eq_getElem?_getD,List.getElem?_append_right (by omega),hml,Nat.sub_self,Ij hj]
  rfl
 ·rw [hd,List.set_append_right _ _ (by omega),hml,Nat.sub_self,List.set_cons_zero,ht,List.map_append,List.append_assoc,Ij hj]
  rfl
theorem Afc (w : WfH h) (hs : Hl f) : Fa { h := h,f := f } = some (Kk h f,{ h := h,f := Kk h f }) := by
 have s1 := hs.fr
 unfold Fa
 apply Ok.eq
 refine Ok.guard (by simp only; omega) ?_
 refine Ok.for (fun j s => s = (f.frosts.take j).map (fun x => Mu (rN h f x.group) x) ++ f.frosts.drop j) (by simp) ?_ ?_
 ·rintro j s n hj rfl hn
  have hj' : j < f.frosts.length := by
   simp only [Int.sub_zero] at hj
   omega
  obtain ⟨m1,m2,m3⟩ := map_at (g := fun x => Mu (rN h f x.group) x) (d := (default : Al)) hj'
  generalize hM : (f.frosts.take j).map (fun x => Mu (rN h f x.group) x) ++ f.frosts.drop j = M at m1 m2 m3
  have hw : AbD { frosts := M,stopped := f.stopped } f := by
   refine AhY ?_
   rw [← hM,List.map_append,List.map_map]
   conv => rhs; rw [← List.take_append_drop j f.frosts,List.map_append]
   congr 1
   apply List.map_congr_left
   intro x _
   simp only [Function.comp]
   rw [(Vh _ x).1,(Vh _ x).2.1]
  have hjn : Int.toNat (0 + (j : Int)) = j := by omega
  unfold Lr Gn
  simp only
  rw [hjn,m1,m3]
  generalize hx : f.frosts.getD j default = x at m1 m2
  refine Ok.guard ⟨by omega,by omega⟩ (Ok.guard hj' ?_)
  have hrest : Mm h { frosts := M,stopped := f.stopped } x.group = some (rN h f x.group) := by
   rw [AbX w (f := { frosts := M,stopped := f.stopped }) ⟨by show M.length ≤ 1000; omega,hs.st⟩,AeC hw rfl]
  rw [hrest,Option.bind_some]
  refine Ok.guard hj' ?_
  have hMl : j < M.length := by omega
  refine Ok.ite (fun c => ?_) fun c => ?_
  ·refine Ok.guard hj' (Ok.guard hj' (Ok.guard hj' ?_))
   rw [AgY hMl,List.set_set]
   simp only
   refine hn _ ?_
   rw [← m2]
   congr 1
   unfold Mu
   rw [if_pos c]
  ·refine hn _ ?_
   rw [← m2]
   have : Mu (rN h f x.group) x = x := by
    unfold Mu
    rw [if_neg (by rw [c]; simp)]
   rw [this,← m1]
   exact (Aez hMl).symm
 ·intro s hs2
  have e : Int.toNat (((f.frosts.length : Nat) : Int) - 0) = f.frosts.length := by omega
  simp only at hs2
  rw [e,List.take_length,List.drop_length,List.append_nil] at hs2
  subst hs2
  exact Ok.ret rfl
theorem Xb (w : WfH h) (hs : Hl f) : Gk h f = some (Kk h f) := by
 have s1 := hs.fr
 have s2 := hs.st
 unfold Gk
 rw [if_pos (by omega)]
 apply Ok.eq
 refine Ok.guard (by omega) ?_
 refine Ok.range (fun pre s => s = pre.map (fun x => Mu (rN h f x.group) x)) rfl ?_ ?_
 ·rintro pre x post s n he rfl hn
  have hl : pre.length + 1 ≤ f.frosts.length := by rw [he]; simp
  have hJ : ∀ y,y = Mu (rN h f x.group) x → Ok (Lt (pre.map (fun x => Mu (rN h f x.group) x)) n y) (fun b => b = Kk h f) := by
   rintro y rfl
   unfold Lt
   refine Ok.guard (by rw [List.length_map]; omega) (hn _ ?_)
   rw [List.map_append]
   rfl
  unfold Wp
  rw [Acf w hs,Option.bind_some]
  refine Ok.ite (fun c => hJ _ ?_) fun c => hJ _ ?_
  ·unfold Mu
   rw [if_pos c]
  ·unfold Mu
   rw [if_neg (by rw [c]; simp)]
 ·intro s hs2
  rw [hs2]
  exact Ok.ret rfl
theorem AfG (w : WfH h) (hl : f.frosts.length ≤ 1000000) (S : List Int) (k : Int) : Fs k { h := h,f := { frosts := f.frosts,stopped := S } } = some (!wT h f k) := by
 unfold Fs
 have e : Hc h { frosts := f.frosts,stopped := S } k = some (wT h { frosts := f.frosts,stopped := S } k) := Aax w hl k
 simp only
 rw [e]
 rfl
theorem AfE (w : WfH h) (hl : f.frosts.length ≤ 1000000) (L S : List Int) (h2 : L.length ≤ 1000000) :
  Ok (Cg L { h := h,f := { frosts := f.frosts,stopped := S } }) (fun r => r.2.1.length = L.length ∧ r.1 ≤ L.length ∧ r.2.1.take r.1 = L.filter (wT h f) ∧ r.2.2.h = h ∧ r.2.2.f.frosts = f.frosts) := by
 have hff : L.filter (fun x => !(!wT h f x)) = L.filter (wT h f) := by
  congr 1
  funext x
  simp
 unfold Cg Da
 rw [if_pos (by omega),Ru (p := fun x => !wT h f x) (fun k x n => by
  unfold Ei
  rw [AfG w hl,Option.bind_some]) rfl]
 refine Ok.step rfl ?_
 rcases Te (fun x => !wT h f x) L 0 with ⟨i,h1,h2',h3⟩ | ⟨h1,h2'⟩
 ·rw [h2',Option.elim_some]
  refine Ok.ite (fun c => by have := beq_iff_eq.mp c; omega) fun _ => ?_
  have e1 : w64 ((i : Int) + 1) = ((i + 1 : Nat) : Int) := by
   rw [Ay (by omega) (by omega)]
   omega
  rw [e1]
  have hh := List.findIdx?_eq_some_iff_getElem.mp h2'
  obtain ⟨g1,g2,g3⟩ := hh
  refine Aik (p := fun x => !wT h f x) (d := 0) h2 h1 ?_ ?_ ?_ ?_
  ·intro x hx
   obtain ⟨j,hj,rfl⟩ := List.getElem_of_mem hx
   rw [List.length_take] at hj
   rw [List.getElem_take]
   have := g3 j (by omega)
   simpa using this
  ·rw [Ij h1]
   exact g2
  ·intro M i j n hM hij hj hn
   unfold Cr Cd
   simp only
   have ei : Int.toNat (i : Int) = i := by omega
   have ej : Int.toNat (j : Int) = j := by omega
   rw [ei,ej]
   refine Ok.ite (fun _ => ?_) fun c => by
    have := of_decide_eq_false c
    omega
   refine Ok.guard (by omega) (Ok.guard (by omega) ?_)
   rw [AfG w hl,Option.bind_some]
   have ej1 : w64 ((j : Int) + 1) = ((j + 1 : Nat) : Int) := by
    rw [Ay (by omega) (by omega)]
    omega
   have ei1 : w64 ((i : Int) + 1) = ((i + 1 : Nat) : Int) := by
    rw [Ay (by omega) (by omega)]
    omega
   rw [ej1,ei1]
   refine Ok.ite (fun c => ?_) fun c => ?_
   ·refine Ok.guard (by omega) (Ok.guard (by omega) (hn _ ?_))
    rw [if_neg]
    simpa using c
   ·refine hn _ ?_
    rw [if_pos]
    rw [Bool.not_eq_false'] at c
    exact c
  ·intro M i n hM hi ht
   unfold Cr
   simp only
   have ei : Int.toNat (i : Int) = i := by omega
   rw [ei,Yc]
   refine Ok.ite (fun c => by have := of_decide_eq_true c; omega) fun _ => ?_
   have hfl : (Rb M i (M.length - i) (0 : Int)).length = M.length := AhZ (by omega)
   refine Ok.guard (by omega) (Ok.guard (by omega) (Ok.guard (by rw [hfl]; omega) (Ok.ret ⟨by simp only; rw [hfl,hM],hi,?_,rfl,rfl⟩)))
   simp only
   rw [AiG (by omega),ht]
   exact hff
 ·rw [h1,Option.elim_none]
  refine Ok.ite (fun _ => Ok.ret ⟨rfl,Nat.le_refl _,?_,rfl,rfl⟩) fun c => by simp at c
  simp only [List.take_length]
  symm
  rw [List.filter_eq_self]
  intro x hx
  rw [List.find?_eq_none] at h2'
  have := h2' x hx
  simpa using this
theorem thaw_ok (w : WfH h) (hs : Hl f) : Ok (Ia { h := h,f := f }) (fun r => r.1.h = h ∧ r.1.f.frosts = f.frosts ∧ r.1.f.stopped.length = f.stopped.length ∧ r.2 ≤ f.stopped.length ∧ r.1.f.stopped.take r.2 = f.stopped.filter (wT h f)) := by
 have s1 := hs.fr
 have s2 := hs.st
 unfold Ia
 simp only
 refine Ok.bind (AfE w (by omega) f.stopped f.stopped (by omega)) fun r ⟨r1,r2,r3,r4,r5⟩ => ?_
 refine Ok.guard r1.symm (Ok.guard (by rw [r5]) (Ok.guard (by omega) (Ok.ret ⟨r4,r5,r1,r2,r3⟩)))
theorem keep_thaw (w : WfH h) (ha : Asc f.stopped) : f.stopped.filter (wT h f) = Oa h f := by
 refine AfO (ha.filter _) (AfZ w.sorted _) fun x => ?_
 rw [List.mem_filter]
 constructor
 ·rintro ⟨h1,h2⟩
  obtain ⟨y,hy,e,hw⟩ := Afs h2
  refine List.mem_map.mpr ⟨y,List.mem_filter.mpr ⟨hy,?_⟩,e⟩
  rw [e,hw,Bool.and_true]
  simpa using h1
 ·intro hx
  obtain ⟨y,hy,e⟩ := List.mem_map.mp hx
  obtain ⟨h1,h2⟩ := List.mem_filter.mp hy
  simp only [Bool.and_eq_true] at h2
  rw [e] at h2
  refine ⟨by simpa using h2.1,?_⟩
  unfold wT
  rw [← e,AdN w.sorted h1]
  exact h2.2
theorem keepF_asc (w : WfH h) (f : Ac) : Asc (Oa h f) := AfZ w.sorted _
theorem keepF_mem {x : Int} (w : WfH h) : x ∈ Oa h f ↔ x ∈ f.stopped ∧ wT h f x = true := by
 constructor
 ·intro hx
  obtain ⟨y,hy,e⟩ := List.mem_map.mp hx
  obtain ⟨h1,h2⟩ := List.mem_filter.mp hy
  simp only [Bool.and_eq_true] at h2
  rw [e] at h2
  refine ⟨by simpa using h2.1,?_⟩
  unfold wT
  rw [← e,AdN w.sorted h1]
  exact h2.2
 ·rintro ⟨h1,h2⟩
  obtain ⟨y,hy,e,hw⟩ := Afs h2
  refine List.mem_map.mpr ⟨y,List.mem_filter.mpr ⟨hy,?_⟩,e⟩
  rw [e,hw,Bool.and_true]
  simpa using h1
theorem AgL (h : Aa) (f : Ac) : (Oa h f).length ≤ h.tasks.length := Afx _ _ _
theorem Aco (w : WfH h) (hs : Hl f) : Ic h f = some (Oa h f) := by
 have l1 := w.len
 have s1 := hs.fr
 have s2 := hs.st
 unfold Ic
 rw [if_pos (by omega),Ik (p := fun x : Au => f.stopped.contains x.id && wN h.tree f x.group) (f := fun x : Au => x.id) (r := Yx) (fun k x s n hs => by
  unfold Yp Pz Qi
  rw [Sv (by omega),Option.bind_some,Qv w.tree (by omega),Option.bind_some,if_pos hs]
  cases f.stopped.contains x.id <;> cases wN h.tree f x.group <;> rfl) (fun _ => rfl) (by simp; omega),List.nil_append]
 rfl
theorem grp_nodup (w : WfH h) (k : FzOk h f) : (f.frosts.map (·.group)).Nodup := by
 rw [k.grp]
 exact Agz w.tree
theorem Aja (hs : Hl f) (id : Int) (b : Bool) : Hl (To f id b) := ⟨by simpa [To] using hs.fr,hs.st⟩
theorem Air (hl : f.frosts.length ≤ 1000000) : Gf f.frosts = some f.frosts := by
 unfold Gf
 rw [if_pos (by omega)]
theorem clone_int {l : List Int} (hl : l.length ≤ 1000000) : Hi l = some l := by
 unfold Hi
 rw [if_pos (by omega)]
theorem open_t (hs : Hl f) : Pa h f = some { h := h,f := f } := by
 have s1 := hs.fr
 have s2 := hs.st
 unfold Pa
 rw [Air (by omega),Option.bind_some,clone_int (by omega),Option.bind_some]
theorem Aij (w : WfH h) (k : FzOk h f) (id : Int) (b : Bool) : Vv h f id b = some (if !Gz h.tree id then (zFr,4) else if id == 1 then (zFr,9) else (setF h f id b,0)) := by
 have hs := k.small w
 have s1 := hs.fr
 have s2 := hs.st
 have l1 := w.len
 unfold Vv
 rw [iff_t' (Aat w hs) k,Option.bind_some,if_neg (by simp),Me w.tree,Option.bind_some]
 cases hg : Gz h.tree id with
 | false => rfl
 | true =>
  simp only [Bool.not_true,Bool.false_eq_true,if_false]
  cases hr : (id == 1) with
  | true => rfl
  | false =>
   simp only [Bool.false_eq_true,if_false]
   rw [if_pos (by omega)]
   have hw := Aja hs id b
   have hk : Ic h (To f id b) = some (Oa h (To f id b)) := Aco w hw
   have hfin : Option.bind (Ic h { frosts := f.frosts.map (Qo id b),stopped := f.stopped }) (fun r24 => Option.bind (Gk h { frosts := f.frosts.map (Qo id b),stopped := r24 }) fun r26 => some (r26,(0 : Int))) = some (setF h f id b,0) := by
    have e1 : Ic h { frosts := f.frosts.map (Qo id b),stopped := f.stopped } = some (Oa h (To f id b)) := hk
    rw [e1,Option.bind_some]
    have e2 : Oa h (To f id b) = (thawF h (To f id b)).stopped := (keep_thaw (f := To f id b) w k.asc).symm
    have hs3 : Hl { frosts := f.frosts.map (Qo id b),stopped := Oa h (To f id b) } := ⟨hw.fr,by
     have := AgL h (To f id b)
     simp only
     omega⟩
    rw [Xb w hs3,Option.bind_some,e2]
    rfl
   rw [AgK (f := Qo id b) (d := (default : Al)) (ret := fun M => Option.bind (Ic h { frosts := M,stopped := f.stopped }) (fun r24 => Option.bind (Gk h { frosts := M,stopped := r24 }) fun r26 => some (r26,(0 : Int)))) (by omega) ?_ ?_]
   ·exact hfin
   ·intro M m n hM hm
    have e1 : w64 ((m : Int) + 1) = ((m + 1 : Nat) : Int) := by
     rw [Ay (by omega) (by omega)]
     omega
    have e2 : Int.toNat (m : Int) = m := by omega
    unfold Vt Sf
    simp only
    rw [e1,e2,if_pos (by simp; omega),if_pos ⟨by omega,by omega⟩,if_pos (by omega)]
    by_cases hc : (M.getD m default).group = id
    ·rw [if_pos (by simpa using hc),if_pos ⟨by omega,by omega⟩,if_pos (by omega)]
     congr 2
     unfold Qo
     rw [if_pos (by simpa using hc)]
    ·rw [if_neg (by simpa using hc)]
     congr 2
     unfold Qo
     rw [if_neg (by simpa using hc)]
     exact (Aez (by omega)).symm
   ·intro M n hM
    unfold Vt
    simp only
    rw [if_neg (by simp; omega)]
theorem Agx (w : WfH h) (f : Ac) (busy : List Int) : Asc (Km h f busy) := AfZ w.sorted _
theorem AgA (h : Aa) (f : Ac) (busy : List Int) : (Km h f busy).length ≤ h.tasks.length := Afx _ _ _
theorem AhR (w : WfH h) (k : FzOk h f) {busy : List Int} (hb : busy.length ≤ 9223372036854775807) : Tl h f busy = some (Kq h f busy,0) := by
 have hs := k.small w
 have s1 := hs.fr
 have s2 := hs.st
 have l1 := w.len
 have hl := AgA h f busy
 have hs2 : Hl { frosts := f.frosts,stopped := Km h f busy } := ⟨hs.fr,by simp only; omega⟩
 unfold Tl
 rw [iff_t' (Aat w hs) k,Option.bind_some,if_neg (by simp),if_pos (by omega),Ik (p := fun x : Au => f.stopped.contains x.id || (wN h.tree f x.group && !busy.contains x.id)) (f := fun x : Au => x.id) (r := Ub h f) (fun k x s n hs => by
  unfold Za Nj Qa
  rw [Sv (by omega),Option.bind_some,Qv w.tree (by omega),Option.bind_some,Ahc _ _ hb,Option.bind_some,if_pos hs]
  cases f.stopped.contains x.id <;> cases wN h.tree f x.group <;> cases busy.contains x.id <;> rfl) (fun _ => rfl) (by simp; omega),List.nil_append]
 unfold Ub
 have : Gk h { frosts := f.frosts,stopped := Km h f busy } = some (Kq h f busy) := Xb w hs2
 show Option.bind (Gk h { frosts := f.frosts,stopped := Km h f busy }) _ = _
 rw [this]
 rfl
theorem Wy (w : WfH h) (k : FzOk h f) {busy : List Int} (hb : busy.length ≤ 9223372036854775807) : Jl h f busy = some (Kq h f busy,0) := by
 have hs := k.small w
 have s1 := hs.fr
 have s2 := hs.st
 have l1 := w.len
 have hl := AgA h f busy
 have hs2 : Hl { frosts := f.frosts,stopped := Km h f busy } := ⟨hs.fr,by simp only; omega⟩
 unfold Jl
 rw [iff_t' (AeT w hs) k,Option.bind_some,if_neg (by simp),open_t hs,Option.bind_some]
 apply Ok.eq
 refine Ok.guard (by omega) ?_
 refine Ok.range (fun pre s => s.Nodup ∧ s.length ≤ f.stopped.length + pre.length ∧ ∀ x,x ∈ s ↔ x ∈ f.stopped ∨ ∃ y ∈ pre,y.id = x ∧ wN h.tree f y.group = true ∧ busy.contains y.id = false) ⟨AgG k.asc,by simp,by simp⟩ ?_ ?_
 ·rintro pre x post s n he ⟨h1,h2,h3⟩ hn
  have hpl : pre.length + 1 ≤ h.tasks.length := by rw [he]; simp
  have hkeep : (wN h.tree f x.group = true → busy.contains x.id = false → x.id ∈ s) → Ok (n s) (fun r => r = (Kq h f busy,0)) := by
   intro hc
   refine hn _ ⟨h1,by simp; omega,fun y => ?_⟩
   rw [h3]
   constructor
   ·rintro (q | ⟨z,hz,q⟩)
    ·exact .inl q
    ·exact .inr ⟨z,by simp [hz],q⟩
   ·rintro (q | ⟨z,hz,e,q1,q2⟩)
    ·exact .inl q
    ·rcases List.mem_append.mp hz with hz | hz
     ·exact .inr ⟨z,hz,e,q1,q2⟩
     ·have : z = x := by simpa using hz
      subst this
      have := (h3 z.id).mp (hc q1 q2)
      rw [e] at this
      exact this
  unfold Wv Lx Ol
  rw [Rc w.tree (by omega),Option.bind_some]
  refine Ok.ite (fun c1 => ?_) fun c1 => by
   simp only [Bool.false_eq_true,if_false]
   exact hkeep fun e => by rw [c1] at e; simp at e
  rw [Ahf _ _ hb,Option.bind_some]
  refine Ok.ite (fun c2 => ?_) fun c2 => by
   simp only [Bool.false_eq_true,if_false]
   exact hkeep fun _ e => by rw [e] at c2; simp at c2
  rw [Mr (by simp only; omega),Option.bind_some]
  simp only
  refine Ok.ite (fun c3 => ?_) fun c3 => hkeep fun _ _ => by simpa using c3
  have hni : x.id ∉ s := by simpa using c3
  refine Ok.guard (by omega) (hn _ ⟨?_,by simp; omega,fun y => ?_⟩)
  ·rw [List.nodup_append]
   exact ⟨h1,by simp,fun a ha b hb' => by rw [List.mem_singleton.mp hb']; intro e; rw [e] at ha; exact hni ha⟩
  ·rw [List.mem_append,h3,List.mem_singleton]
   constructor
   ·rintro ((q | ⟨z,hz,q⟩) | rfl)
    ·exact .inl q
    ·exact .inr ⟨z,by simp [hz],q⟩
    ·exact .inr ⟨x,by simp,rfl,c1,by simpa using c2⟩
   ·rintro (q | ⟨z,hz,e,q1,q2⟩)
    ·exact .inl (.inl q)
    ·rcases List.mem_append.mp hz with hz | hz
     ·exact .inl (.inr ⟨z,hz,e,q1,q2⟩)
     ·have : z = x := by simpa using hz
      subst this
      exact .inr e.symm
 ·rintro s ⟨h1,h2,h3⟩
  have hsl := k.slen
  unfold Ws
  obtain ⟨M,m1,m2,m3⟩ := Sort_ok s (by omega)
  have hlen := m2.length_eq
  have hM : M = Km h f busy := by
   refine AfO ?_ (Agx w f busy) fun x => ?_
   ·have hn : M.Nodup := m2.nodup_iff.mpr h1
    exact (List.Pairwise.and m3 hn).imp fun h => by omega
   ·rw [m2.mem_iff,h3]
    unfold Km
    rw [List.mem_map]
    constructor
    ·rintro (q | ⟨z,hz,e,q1,q2⟩)
     ·obtain ⟨y,hy,e,_⟩ := Afs (k.stp x q)
      refine ⟨y,List.mem_filter.mpr ⟨hy,?_⟩,e⟩
      rw [e]
      have : f.stopped.contains x = true := by simpa using q
      rw [this]
      rfl
     ·refine ⟨z,List.mem_filter.mpr ⟨hz,?_⟩,e⟩
      rw [q1,q2]
      simp
    ·rintro ⟨z,hz,e⟩
     obtain ⟨z1,z2⟩ := List.mem_filter.mp hz
     simp only [Bool.or_eq_true,Bool.and_eq_true,Bool.not_eq_true'] at z2
     rcases z2 with z2 | ⟨z2,z3⟩
     ·left
      rw [e] at z2
      simpa using z2
     ·exact .inr ⟨z,z1,e,z2,z3⟩
  rw [m1,Option.bind_some]
  subst hM
  refine Ok.guard hlen.symm ?_
  have hr : Fa { h := h,f := { frosts := f.frosts,stopped := Km h f busy } } = some (Kq h f busy,{ h := h,f := Kq h f busy }) := Afc w hs2
  simp only
  rw [hr,Option.bind_some]
  refine Ok.guard (by simp [Kq,Kk]) (Ok.guard rfl (Ok.ret rfl))
theorem minmax (c : Int) : maxI 0 (Rk c 1099511627776) = Rk (maxI c 0) 1099511627776 := by
 unfold maxI Rk
 split <;> split <;> split <;> (try split) <;> omega
theorem AgD (w : WfH h) (hs : Hl f) : Hl (Wu h f) := by
 have := w.tree.len2
 exact ⟨by simp only [Wu,List.length_map]; omega,hs.st⟩
theorem Agi (w : WfH h) (hs : Hl f) : Nh h f = some (adjF h f,0) := by
 have s1 := hs.fr
 have s2 := hs.st
 have l1 := w.len
 have l2 := w.tree.len2
 unfold Nh
 rw [Hv w,Option.bind_some,if_neg (by simp),if_pos (by omega),Ik (p := fun _ => true) (f := adjX f) (r := Rd h f) (fun k x s n hs => by
  unfold Vb Nr
  rw [Adn (by omega),Option.bind_some,if_pos hs,if_pos hs,if_pos rfl,minmax,frN_group]
  unfold adjX
  cases (frN f x.id).want <;> rfl) (fun _ => rfl) (by simp; omega),List.nil_append,List.filter_eq_self.mpr fun _ _ => rfl]
 unfold Rd
 have e1 : Ic h { frosts := h.tree.nodes.map (adjX f),stopped := f.stopped } = some (Oa h (Wu h f)) := Aco w (AgD w hs)
 rw [e1,Option.bind_some]
 have hs3 : Hl { frosts := (Wu h f).frosts,stopped := Oa h (Wu h f) } := ⟨(AgD w hs).fr,by
  have := AgL h (Wu h f)
  simp only
  omega⟩
 have e2 : Gk h { frosts := h.tree.nodes.map (adjX f),stopped := Oa h (Wu h f) } = some (adjF h f) := Xb w hs3
 rw [e2]
 rfl
end
end Go.Dm

/- Plain theory of freezers, part 3: what stays valid; made freezers. -/
namespace Go.Dm
section
variable {h : Aa} {f : Ac}
structure PreF (h : Aa) (f : Ac) : Prop where
 grp : f.frosts.map (·.group) = h.tree.nodes.map (·.id)
 chg : ∀ x ∈ f.frosts,0 ≤ x.changes ∧ x.changes ≤ 1099511627776
 asc : Asc f.stopped
 stp : ∀ k ∈ f.stopped,wT h f k = true
theorem PreF.renew (p : PreF h f) : FzOk h (Kk h f) := by
 have sw := Sc h f
 refine ⟨?_,?_,p.asc,fun k hk => ?_,?_⟩
 ·rw [← p.grp]
  unfold Kk
  rw [List.map_map]
  apply List.map_congr_left
  intro x _
  exact (Vh _ x).1
 ·intro y hy
  obtain ⟨x,hx,rfl⟩ := List.mem_map.mp hy
  have := p.chg x hx
  unfold Mu
  split
  ·simp only
   rw [Ay (by omega) (by omega)]
   unfold Rk
   split <;> omega
  ·exact this
 ·rw [wT_congr sw]
  exact p.stp k hk
 ·intro y hy
  obtain ⟨x,hx,rfl⟩ := List.mem_map.mp hy
  rw [(Vh _ x).2.2,(Vh _ x).1]
  exact (AeC sw rfl _).symm
theorem Afl (id : Int) (b : Bool) (x : Al) : (Qo id b x).group = x.group ∧ (Qo id b x).changes = x.changes ∧ (Qo id b x).frozen = x.frozen ∧ (Qo id b x).want = if x.group == id then b else x.want := by
 unfold Qo
 split <;> exact ⟨rfl,rfl,rfl,rfl⟩
theorem set_fz (k : FzOk h f) (id : Int) (b : Bool) : FzOk h (setF h f id b) := by
 refine PreF.renew ⟨?_,?_,k.asc.filter _,fun x hx => (List.mem_filter.mp hx).2⟩
 ·rw [← k.grp]
  show (f.frosts.map (Qo id b)).map _ = _
  rw [List.map_map]
  apply List.map_congr_left
  intro x _
  exact (Afl id b x).1
 ·intro y hy
  obtain ⟨x,hx,rfl⟩ := List.mem_map.mp hy
  rw [(Afl id b x).2.1]
  exact k.chg x hx
theorem Acu (w : WfH h) {busy : List Int} {x : Au} (hx : x ∈ h.tasks) : x.id ∈ Km h f busy ↔ (f.stopped.contains x.id || (wN h.tree f x.group && !busy.contains x.id)) = true := by
 unfold Km
 rw [List.mem_map]
 constructor
 ·rintro ⟨y,hy,e⟩
  obtain ⟨h1,h2⟩ := List.mem_filter.mp hy
  rw [Aec w.sorted h1 hx e] at h2
  exact h2
 ·intro he
  exact ⟨x,List.mem_filter.mpr ⟨hx,he⟩,rfl⟩
theorem wT_task (w : WfH h) {x : Au} (hx : x ∈ h.tasks) : wT h f x.id = wN h.tree f x.group := by
 unfold wT
 rw [AdN w.sorted hx]
 rfl
theorem Abn (w : WfH h) (k : FzOk h f) (busy : List Int) : FzOk h (Kq h f busy) := by
 refine PreF.renew ⟨k.grp,k.chg,Agx w f busy,fun i hi => ?_⟩
 obtain ⟨y,hy,e⟩ := List.mem_map.mp hi
 obtain ⟨h1,h2⟩ := List.mem_filter.mp hy
 rw [← e]
 show wT h f y.id = true
 simp only [Bool.or_eq_true,Bool.and_eq_true] at h2
 rcases h2 with h2 | h2
 ·exact k.stp y.id (by simpa using h2)
 ·rw [wT_task w h1]
  exact h2.1
theorem adj_fz (w : WfH h) (f : Ac) : FzOk h (adjF h f) := by
 refine PreF.renew ⟨?_,?_,keepF_asc w _,fun i hi => ((keepF_mem w).mp hi).2⟩
 ·show (h.tree.nodes.map (adjX f)).map _ = _
  rw [List.map_map]
  rfl
 ·intro y hy
  obtain ⟨x,hx,rfl⟩ := List.mem_map.mp hy
  unfold adjX
  simp only
  unfold Rk maxI
  split <;> split <;> omega
theorem frN_of (w : WfH h) (k : FzOk h f) {x : Al} (hx : x ∈ f.frosts) : frN f x.group = x := by
 have hn := grp_nodup w k
 unfold frN
 have : f.frosts.find? (fun y => y.group == x.group) = some x := by
  rw [List.find?_eq_some_iff_append]
  obtain ⟨A,B,e⟩ := List.append_of_mem hx
  refine ⟨by simp,A,B,e,fun y hy => ?_⟩
  rw [e,List.map_append,List.map_cons,List.nodup_append] at hn
  have := hn.2.2 y.group (List.mem_map_of_mem hy) x.group (by simp)
  simpa using this
 rw [this]
 rfl
theorem frN_node (w : WfH h) (k : FzOk h f) {x : An} (hx : x ∈ h.tree.nodes) : frN f x.id ∈ f.frosts ∧ (frN f x.id).frozen = rN h f x.id := by
 have : x.id ∈ f.frosts.map (·.group) := by
  rw [k.grp]
  exact List.mem_map_of_mem hx
 obtain ⟨y,hy,e⟩ := List.mem_map.mp this
 rw [← e,frN_of w k hy]
 exact ⟨hy,k.frz y hy⟩
theorem AiR (k : FzOk h f) : Kk h f = f := by
 unfold Kk
 have : f.frosts.map (fun x => Mu (rN h f x.group) x) = f.frosts.map id := by
  apply List.map_congr_left
  intro x hx
  unfold Mu
  rw [← k.frz x hx,if_neg (by simp)]
  rfl
 rw [this]
 simp
def Mp (f : Ac) : Prop := (frN f 1).want = false
theorem AhC {f f' : Ac} (e : AbD f f') (r : Mp f') : Mp f := by
 unfold Mp
 rw [e 1]
 exact r
theorem set_root (r : Mp f) {id : Int} (hid : id ≠ 1) (b : Bool) : Mp (setF h f id b) := by
 refine AhC (Sc h _) ?_
 unfold Mp frN at r ⊢
 show (((f.frosts.map (Qo id b)).find? (fun x => x.group == 1)).getD (zF 1)).want = false
 have e : (f.frosts.map (Qo id b)).find? (fun x => x.group == 1) = (f.frosts.find? (fun x => x.group == 1)).map (Qo id b) := by
  rw [List.find?_map]
  congr 2
  funext x
  simp only [Function.comp]
  rw [(Afl id b x).1]
 rw [e]
 cases hf : f.frosts.find? (fun x => x.group == 1) with
 | none => rfl
 | some x =>
  rw [hf] at r
  have hx : x.group = 1 := by simpa using List.find?_some hf
  simp only [Option.map_some,Option.getD_some] at r ⊢
  rw [(Afl id b x).2.2.2,if_neg (by simp; omega)]
  exact r
theorem step_root (r : Mp f) (busy : List Int) : Mp (Kq h f busy) := AhC (Sc h _) r
def Ov (h : Aa) : Ac := { frosts := h.tree.nodes.map (fun x => zF x.id),stopped := [] }
theorem frN_map {G : An → Al} (w : WfH h) (hG : ∀ x ∈ h.tree.nodes,(G x).group = x.id) {S : List Int} {x : An} (hx : x ∈ h.tree.nodes) : frN { frosts := h.tree.nodes.map G,stopped := S } x.id = G x := by
 unfold frN
 have : (h.tree.nodes.map G).find? (fun y => y.group == x.id) = some (G x) := by
  rw [List.find?_eq_some_iff_append]
  obtain ⟨A,B,e⟩ := List.append_of_mem hx
  refine ⟨by simp [hG x hx],A.map G,B.map G,by rw [e]; simp,fun y hy => ?_⟩
  obtain ⟨z,hz,rfl⟩ := List.mem_map.mp hy
  have hn := Agz w.tree
  rw [e,List.map_append,List.map_cons,List.nodup_append] at hn
  have hzm : z ∈ h.tree.nodes := by rw [e]; simp [hz]
  have := hn.2.2 z.id (List.mem_map_of_mem hz) x.id (by simp)
  rw [hG z hzm]
  simpa using this
 rw [this]
 rfl
theorem frN_zero (g : Int) : frN zFr g = zF g := rfl
theorem Ahh (w : WfH h) : adjF h zFr = Ov h := by
 have e1 : (Wu h zFr).frosts = h.tree.nodes.map (fun x => zF x.id) := by
  apply List.map_congr_left
  intro x _
  unfold adjX
  rw [frN_zero]
  rfl
 have e2 : Oa h (Wu h zFr) = [] := by
  unfold Oa
  rw [List.map_eq_nil_iff,List.filter_eq_nil_iff]
  intro x _
  simp [Wu,zFr]
 unfold adjF
 rw [e1,e2]
 show Kk h (Ov h) = Ov h
 have hw : ∀ id,wN h.tree (Ov h) id = false := by
  intro id
  unfold wN
  rw [List.any_eq_false]
  intro g _
  unfold frN Ov
  cases e : (h.tree.nodes.map (fun x => zF x.id)).find? (fun x => x.group == g) with
  | none => simp [zF]
  | some y =>
   obtain ⟨z,_,rfl⟩ := List.mem_map.mp (List.mem_of_find?_eq_some e)
   simp [zF]
 have hr : ∀ id,rN h (Ov h) id = false := fun id => by
  unfold rN
  rw [hw]
  rfl
 unfold Kk
 have : (Ov h).frosts.map (fun x => Mu (rN h (Ov h) x.group) x) = (Ov h).frosts := by
  show (h.tree.nodes.map (fun x => zF x.id)).map _ = h.tree.nodes.map (fun x => zF x.id)
  rw [List.map_map]
  apply List.map_congr_left
  intro x _
  simp only [Function.comp]
  rw [hr]
  rfl
 rw [this]
theorem fresh_fz (w : WfH h) : FzOk h (Ov h) := by
 rw [← Ahh w]
 exact adj_fz w _
theorem Ail (w : WfH h) : Wi h = some (Ov h) := by
 unfold Wi
 have e : Nh h { frosts := [],stopped := [] } = some (adjF h zFr,0) := Agi (f := zFr) w ⟨by simp [zFr],by simp [zFr]⟩
 rw [e,Option.bind_some,Ahh w]
theorem AhH {d : Aq} (hd : Bx d) (w : WfH h) (b : Bool) : Ok (Jx d h b) (fun r => Bx r.2 ∧ r.1.length ≤ h.tasks.length) := by
 have l1 := w.len
 unfold Jx
 refine Ok.guard (by omega) ?_
 refine Ok.range (fun pre s => Bx s.1 ∧ s.2.length ≤ pre.length) ⟨hd,by simp⟩ ?_ fun s ⟨h1,h2⟩ => Ok.ret ⟨h1,h2⟩
 rintro pre x post s n he ⟨h1,h2⟩ hn
 have hpl : pre.length + 1 ≤ h.tasks.length := by rw [he]; simp
 have hJ : ∀ y : Aq × Bool,Bx y.1 → Ok (Ih x s n y) (fun r => Bx r.2 ∧ r.1.length ≤ h.tasks.length) := by
  intro y hy
  unfold Ih Ki
  refine Ok.ite (fun _ => Ok.guard (by omega) (hn _ ⟨hy,by simp; omega⟩)) fun _ => hn _ ⟨hy,by simp; omega⟩
 unfold Rp
 refine Ok.ite (fun _ => hJ _ h1) fun _ => ?_
 exact Ok.bind (Gb h1 4 (by omega) (by omega)) fun r ⟨hd,_,_⟩ => hJ _ hd
theorem Ajc (w : WfH h) : Mp (Ov h) := by
 obtain ⟨x,r,e,hr⟩ := w.tree.root
 have hx : x ∈ h.tree.nodes := by rw [e]; simp
 unfold Mp
 have h1 : x.id = 1 := hr.id
 rw [← h1]
 show (frN { frosts := h.tree.nodes.map (fun x => zF x.id),stopped := [] } x.id).want = false
 rw [frN_map w (fun _ _ => rfl) hx]
 rfl
theorem Ajd {d : Aq} (hd : Bx d) (w : WfH h) {n : Int} (n0 : 0 ≤ n) (n1 : n ≤ 1000) : Ok (Ke d h n) (fun r => FzOk h r.1 ∧ Mp r.1 ∧ Bx r.2) := by
 have l1 := w.len
 have l2 := w.tree.len2
 unfold Ke
 rw [Ail w,Option.bind_some]
 have hw : w64 (n + 1) = n + 1 := Ay (by omega) (by omega)
 rw [hw]
 refine Ok.bind (Gb hd (n + 1) (by omega) (by omega)) fun r ⟨hd,a0,a1⟩ => ?_
 refine Ok.while (fun s => Bx s.1 ∧ FzOk h s.2.1 ∧ Mp s.2.1 ∧ 0 ≤ s.2.2 ∧ s.2.2 ≤ 1000) (fun s => s.2.2.toNat) ⟨hd,fresh_fz w,Ajc w,a0,by simp only; omega⟩ (by rw [Db]; simp only; omega) ?_
 rintro ⟨d,f,i⟩ m ⟨hd,k,rw',i0,i1⟩ hm
 simp only at hd k rw' i0 i1
 unfold Pj
 simp only
 refine Ok.ite (fun c => ?_) fun _ => Ok.ret ⟨k,rw',hd⟩
 have ipos : i > 0 := by simpa using c
 have hi : w64 (i - 1) = i - 1 := Ay (by omega) (by omega)
 have hJ : ∀ (d : Aq) (g : Ac) (e : Int),Bx d → (e = 0 → FzOk h g ∧ Mp g) → Ok (Fy (d,f,i) m (d,g,e)) (fun r => FzOk h r.1 ∧ Mp r.1 ∧ Bx r.2) := by
  intro d g e hd hg
  unfold Fy Ip
  simp only
  rw [hi]
  refine Ok.ite (fun c => ?_) fun _ => ?_
  ·obtain ⟨g1,g2⟩ := hg (by simpa using c)
   exact hm _ ⟨hd,g1,g2,by simp only; omega,by simp only; omega⟩ (by simp only; omega)
  ·exact hm _ ⟨hd,k,rw',by simp only; omega,by simp only; omega⟩ (by simp only; omega)
 have hJ2 : ∀ (d0 d : Aq) (g : Ac) (e : Int),Bx d → (e = 0 → FzOk h g ∧ Mp g) → Ok (Fy (d0,f,i) m (d,g,e)) (fun r => FzOk h r.1 ∧ Mp r.1 ∧ Bx r.2) := fun d0 d g e hd hg => hJ d g e hd hg
 refine Ok.bind (AhH hd w false) fun r17 ⟨hd,hl⟩ => ?_
 rw [AhR w k (by omega),Option.bind_some]
 refine Ok.bind (Uq hd 2 (by omega)) fun r19 hd => ?_
 refine Ok.ite (fun _ => ?_) fun _ => hJ2 _ _ _ _ hd fun _ => ⟨Abn w k _,step_root rw' _⟩
 refine Ok.bind (AbH hd _ (by omega)) fun g hd => Ok.bind (Gb hd 3 (by omega) (by omega)) fun r22 ⟨hd,_,_⟩ => ?_
 rw [Aij w k,Option.bind_some]
 refine hJ2 _ _ _ _ hd fun e => ?_
 cases hg : Gz h.tree g.1 with
 | false => simp [hg] at e
 | true =>
  cases h1 : (g.1 == 1) with
  | true => simp [hg,h1] at e
  | false =>
   simp only [Bool.not_true,Bool.false_eq_true,if_false]
   exact ⟨set_fz k _ _,set_root rw' (by simpa using h1) _⟩
end
theorem AhT : Ra = some true := by kernel_rfl
theorem Ahq (c : Al) : AdD c c = true := by simp [AdD]
theorem AeV {f : Ac} (hs : Hl f) : Jc f f = some true := by
 have s1 := hs.fr
 have s2 := hs.st
 unfold Jc
 have e1 : Wj f.frosts f.frosts = some true := by
  unfold Wj
  rw [if_neg (by simp),if_pos (by omega)]
  apply Ok.eq
  refine Ok.range (fun _ _ => True) trivial ?_ fun _ _ => Ok.ret rfl
  intro pre x post s n he _ hn
  unfold Aaz
  have hi : pre.length < f.frosts.length := by
   rw [he]
   simp
  have : f.frosts.getD pre.length default = x := by
   rw [he]
   exact AbR
  rw [if_pos hi,this,Ahq,if_neg (by simp)]
  exact hn () trivial
 have e2 : Qe f.stopped f.stopped = some true := by
  unfold Qe
  rw [if_neg (by simp),if_pos (by omega)]
  apply Ok.eq
  refine Ok.range (fun _ _ => True) trivial ?_ fun _ _ => Ok.ret rfl
  intro pre x post s n he _ hn
  unfold Uv
  have hi : pre.length < f.stopped.length := by
   rw [he]
   simp
  have : f.stopped.getD pre.length 0 = x := by
   rw [he]
   exact AbR
  rw [if_pos hi,this,if_neg (by simp)]
  exact hn () trivial
 rw [e1,Option.bind_some,if_pos rfl,e2]
 rfl
end Go.Dm

/- Plain theory of freezers, part 4: wishes and rest, from the root down. -/
namespace Go.Dm
section
variable {h : Aa} {f : Ac}
theorem wN_down (w : WfT h.tree) {a b : Int} (hab : a ∈ upT h.tree b) (hw : wN h.tree f a = true) : wN h.tree f b = true := by
 obtain ⟨y,hy,rfl⟩ := Pe hab
 unfold wN at hw ⊢
 obtain ⟨g,hg,e⟩ := List.any_eq_true.mp hw
 exact List.any_eq_true.mpr ⟨g,Ahv w hg y hy hab,e⟩
theorem rest_all (w : WfH h) (id : Int) : rN h { frosts := f.frosts,stopped := Km h f [] } id = wN h.tree f id := by
 unfold rN
 show (wN h.tree f id && _) = _
 cases hw : wN h.tree f id with
 | false => rfl
 | true =>
  rw [Bool.true_and,List.all_eq_true]
  intro x hx
  cases hc : (upT h.tree x.group).contains id with
  | false => rfl
  | true =>
   have hd := wN_down w.tree (f := f) (by simpa using hc) hw
   have : x.id ∈ Km h f [] := (Acu w hx).mpr (by rw [hd]; simp)
   simpa using this
theorem Aiq (w : WfH h) (k : FzOk h f) {x : An} (hx : x ∈ h.tree.nodes) : (frN (Kq h f []) x.id).frozen = wN h.tree f x.id := by
 rw [(frN_node w (Abn w k []) hx).2]
 have e := AeC (h := h) (Sc h { frosts := f.frosts,stopped := Km h f [] }) rfl x.id
 rw [← rest_all w]
 exact e
theorem Ajf (w : WfH h) (k : FzOk h f) : Kq h (Kq h f []) [] = Kq h f [] := by
 have k2 := Abn w k []
 have hw : ∀ g,wN h.tree (Kq h f []) g = wN h.tree f g := fun g => AeB (Sc h { frosts := f.frosts,stopped := Km h f [] }) g
 have e : Km h (Kq h f []) [] = Km h f [] := by
  show _ = (h.tasks.filter _).map _
  unfold Km
  congr 1
  apply List.filter_congr
  intro x hx
  rw [hw]
  have hc : (Kq h f []).stopped.contains x.id = (f.stopped.contains x.id || (wN h.tree f x.group && !([] : List Int).contains x.id)) := by
   rw [Bool.eq_iff_iff,List.contains_iff_mem]
   exact Acu w hx
  rw [hc]
  cases f.stopped.contains x.id <;> cases wN h.tree f x.group <;> rfl
 unfold Kq at e ⊢
 rw [e]
 exact AiR k2
end
end Go.Dm

/- The law FreezeStops, on the model. -/
namespace Go.Dm
theorem Agd (l : List Int) : Ok (Kj l) (· = true) := by
 have sane : ∀ {f : Bool → Option Bool},f true = some true → Ok (Option.bind Ra f) (· = true) := fun h => Ok.step AhT (Ok.of_eq h rfl)
 unfold Kj Xo
 refine Ok.step rfl ?_
 refine Ok.ite (fun _ => sane rfl) fun c => ?_
 have hl : l.length ≤ 600 := by
  have : ((l.length : Nat) : Int) ≤ 600 := by simpa using c
  omega
 refine Ok.step (a := { l := l,atF := 0 }) rfl ?_
 refine Ok.bind (AhL (dice_roll hl) 6 6 (by omega) (by omega) (by omega) (by omega)) fun r5 ⟨w,hd⟩ => ?_
 have l1 := w.len
 have l2 := w.tree.len2
 refine Ok.bind (Ajd hd w (n := 6) (by omega) (by omega)) fun r6 ⟨k,rt,hd⟩ => ?_
 refine Ok.bind (AhH hd w false) fun r7 ⟨hd,hbl⟩ => ?_
 have hs := k.small w
 have s1 := hs.fr
 have s2 := hs.st
 have ka := Abn w k []
 have hsa := ka.small w
 have a1 := hsa.fr
 have a2 := hsa.st
 have kb := Abn w k r7.1
 have hsb := kb.small w
 have b1 := hsb.fr
 have b2 := hsb.st
 rw [Wy w k (busy := []) (by simp),Option.bind_some,Wy w k (busy := r7.1) (by omega),Option.bind_some,if_neg (by simp)]
 refine Ok.guard (by omega) ?_
 refine Ok.range (fun _ _ => True) trivial ?_ fun _ _ => ?_
 ·intro pre x post _ n he _ hn
  have hx : x ∈ r5.1.tree.nodes := by rw [he]; simp
  unfold Pi
  simp only
  rw [Ack (by omega),Option.bind_some,Zz w.tree (by omega),Option.bind_some,Aiq w k hx,if_neg (by simp)]
  exact hn () trivial
 ·unfold Pl
  refine Ok.guard (by omega) ?_
  refine Ok.range (fun _ _ => True) trivial ?_ fun _ _ => ?_
  ·intro pre x post _ n he _ hn
   have hx : x ∈ r5.1.tasks := by rw [he]; simp
   have hc : (Kq r5.1 r6.1 r7.1).stopped.contains x.id = (r6.1.stopped.contains x.id || (wN r5.1.tree r6.1 x.group && !r7.1.contains x.id)) := by
    rw [Bool.eq_iff_iff,List.contains_iff_mem]
    exact Acu w hx
   have hJ : ∀ b,b = (r6.1.stopped.contains x.id || (wN r5.1.tree r6.1 x.group && !r7.1.contains x.id)) → Ok (Fm (Kq r5.1 r6.1 r7.1,0) x n b) (· = true) := by
    rintro b rfl
    unfold Fm
    simp only
    rw [Mr (by omega),Option.bind_some,hc,if_neg (by simp)]
    exact hn () trivial
   unfold Pg
   rw [Mr (by omega),Option.bind_some]
   refine Ok.ite (fun c => hJ _ (by rw [c]; rfl)) fun c1 => ?_
   rw [Zz w.tree (by omega),Option.bind_some]
   refine Ok.ite (fun c2 => ?_) fun c2 => hJ _ (by rw [c1,c2]; rfl)
   rw [AaM _ _ (by omega),Option.bind_some]
   exact hJ _ (by rw [c1,c2]; rfl)
  ·unfold Pf
   simp only
   rw [Wy w ka (busy := []) (by simp),Option.bind_some,if_pos (by simp),Ajf w k,AeV hsa,Option.bind_some,if_pos rfl]
   exact sane rfl
theorem AeD (l : List Int) (_ : ∀ n ∈ l,-9223372036854775808 ≤ n ∧ n ≤ 9223372036854775807) : Kj l = some true := (Agd l).eq
end Go.Dm

/- Models of Go types and functions, printed by a program. -/
namespace Go.Dm
set_option linter.unusedVariables false

end Go.Dm


/- The data machine, part 26: a row is cut to the part that is still looked at. -/
namespace Go.Dm
def req1 (k n : Nat) : MV → List Prop
 | .own k' _ off len => bif Nat.beq k' k then [off + len ≤ n] else []
 | .eref k' _ i _ => bif Nat.beq k' k then [i < n] else []
 | .agg _ => [False]
 | .tup _ => [False]
 | .fn _ _ => [False]
 | _ => []
def reqs (k n : Nat) : List MV → List Prop
 | [] => []
 | x :: r => req1 k n x ++ reqs k n r
def reqV (k n : Nat) : MV → List Prop
 | .agg cs => reqs k n cs
 | .tup cs => reqs k n cs
 | .fn _ cs => reqs k n cs
 | x => req1 k n x
def reqS (k n : Nat) : List (Nat × MV) → List Prop
 | [] => []
 | (_,x) :: r => reqV k n x ++ reqS k n r
def reqB (k n : Nat) : Body → List Prop
 | .box cs => reqs k n cs
 | _ => []
def reqO (k n : Nat) : List (Nat × Obj) → List Prop
 | [] => []
 | (_,o) :: r => reqB k n o.body ++ reqO k n r
def cutB (n : Nat) : Body → Body
 | .row W _ f => .row W n f
 | b => b
def Sz (k n : Nat) : List (Nat × Obj) → List (Nat × Obj)
 | [] => []
 | (j,o) :: r => bif Nat.beq j k then (j,⟨o.gen,cutB n o.body⟩) :: Sz k n r else (j,o) :: Sz k n r
def rowN : Option Obj → Option Nat
 | some ⟨_,.row _ n _⟩ => some n
 | _ => none
theorem AbN (k n : Nat) : ∀ (l : List (Nat × Obj)) (j : Nat),assoc (Sz k n l) j = (assoc l j).map fun o => bif Nat.beq j k then ⟨o.gen,cutB n o.body⟩ else o
 | [],j => rfl
 | (i,o) :: r,j => by
  simp only [Sz]
  cases hb : Nat.beq i k with
  | true =>
   simp only [cond_true,assoc]
   cases hj : Nat.beq j i with
   | true =>
    have e1 := Nat.eq_of_beq_eq_true hj
    subst e1
    simp [hb]
   | false => simpa using AbN k n r j
  | false =>
   simp only [cond_false,assoc]
   cases hj : Nat.beq j i with
   | true =>
    have e1 := Nat.eq_of_beq_eq_true hj
    subst e1
    simp [hb]
   | false => simpa using AbN k n r j
theorem AhM {k n : Nat} : ∀ {l : List (Nat × MV)} {t : Nat} {x : MV},All (reqS k n l) → assoc l t = some x → All (reqV k n x)
 | [],t,x,_,h => by simp [assoc] at h
 | (i,y) :: r,t,x,ha,h => by
  simp only [reqS,All_append] at ha
  simp only [assoc] at h
  cases hb : Nat.beq t i with
  | true => simp [hb] at h; subst h; exact ha.1
  | false => simp [hb] at h; exact AhM ha.2 h
theorem AhG {k n : Nat} : ∀ {l : List (Nat × Obj)} {t : Nat} {x : Obj},All (reqO k n l) → assoc l t = some x → All (reqB k n x.body)
 | [],t,x,_,h => by simp [assoc] at h
 | (i,y) :: r,t,x,ha,h => by
  simp only [reqO,All_append] at ha
  simp only [assoc] at h
  cases hb : Nat.beq t i with
  | true => simp [hb] at h; subst h; exact ha.1
  | false => simp [hb] at h; exact AhG ha.2 h
theorem Yk {k n : Nat} : ∀ {l : List MV} {j : Nat} {x : MV},All (reqs k n l) → l[j]? = some x → All (req1 k n x)
 | [],j,x,_,h => by simp at h
 | y :: r,0,x,ha,h => by
  simp only [reqs,All_append] at ha
  simp at h
  subst h
  exact ha.1
 | y :: r,j + 1,x,ha,h => by
  simp only [reqs,All_append] at ha
  exact Yk ha.2 (by simpa using h)
section
variable {cx : Cx} {β : Ce} {a : Act} {w : World}
theorem Rel.cut {k n n0 : Nat} {sl : List (Nat × MV)} {ob : List (Nat × Obj)} (h : Rel cx β (Aj sl ob) a w) (hn : rowN (assoc ob k) = some n0) (hle : n ≤ n0) (hs : All (reqS k n sl)) (ho : All (reqO k n ob)) : Rel cx β (Aj sl (Sz k n ob)) a w := by
 obtain ⟨g0,W,f,hk⟩ : ∃ g0 W f,assoc ob k = some ⟨g0,.row W n0 f⟩ := by
  unfold rowN at hn
  split at hn
  ·rename_i g W m f he
   simp at hn
   subst hn
   exact ⟨g,W,f,he⟩
  ·simp at hn
 have hget : ∀ j o',assoc (Sz k n ob) j = some o' → ∃ o,assoc ob j = some o ∧ o'.gen = o.gen ∧ (o'.body.live ↔ o.body.live) ∧ (j ≠ k → o' = o) ∧ (j = k → o'.body = .row W n f ∧ o.body = .row W n0 f) := by
  intro j o' hj
  rw [AbN] at hj
  cases hq : assoc ob j with
  | none => simp [hq] at hj
  | some o =>
   simp only [hq,Option.map_some,Option.some.injEq] at hj
   subst hj
   cases hb : Nat.beq j k with
   | true =>
    have e := Nat.eq_of_beq_eq_true hb
    subst e
    rw [hk] at hq
    injection hq with hq
    subst hq
    exact ⟨_,rfl,rfl,by simp [cutB,Body.live],fun e => absurd rfl e,fun _ => ⟨rfl,rfl⟩⟩
   | false =>
    have e : j ≠ k := fun e => by rw [e,Fx] at hb; simp at hb
    exact ⟨o,rfl,rfl,Iff.rfl,fun _ => rfl,fun e' => absurd e' e⟩
 have hput : ∀ j o,assoc ob j = some o → ∃ o',assoc (Sz k n ob) j = some o' ∧ o'.gen = o.gen ∧ (j ≠ k → o' = o) ∧ (j = k → o'.body = .row W n f ∧ o.body = .row W n0 f) := by
  intro j o hj
  cases hq : assoc (Sz k n ob) j with
  | none => rw [AbN,hj] at hq; simp at hq
  | some o' =>
   obtain ⟨o1,h1,h2,_,h3,h4⟩ := hget j o' hq
   rw [hj] at h1
   injection h1 with h1
   subst h1
   exact ⟨o',rfl,h2,h3,h4⟩
 have hS : ∀ b,Az cx.Av β (assoc ob) w b → Az cx.Av β (assoc (Sz k n ob)) w b := by
  intro b hb
  refine ⟨hb.1,hb.2.1,fun j o' hj hl => ?_⟩
  obtain ⟨o,h1,_,h2,_⟩ := hget j o' hj
  exact hb.2.2 j o h1 (h2.1 hl)
 have known : ∀ (j g : Nat) (F F' : Loc → Body → Prop),Known β (assoc ob) j g F → (∀ l b,j ≠ k → F l b → F' l b) → (∀ l,j = k → F l (.row W n0 f) → F' l (.row W n f)) → Known β (assoc (Sz k n ob)) j g F' := by
  rintro j g F F' ⟨o,q1,q2,q3⟩ h1 h2
  obtain ⟨o',r1,r2,r3,r4⟩ := hput j o q1
  refine ⟨o',r1,by omega,fun e => ?_⟩
  have hF := q3 (by omega)
  by_cases e2 : j = k
  ·obtain ⟨e3,e4⟩ := r4 e2
   rw [e3]
   rw [e4] at hF
   exact h2 _ e2 hF
  ·rw [r3 e2]
   exact h1 _ _ e2 hF
 have one : ∀ (v : Value) (x : MV),RelV β (assoc ob) (Az cx.Av β (assoc ob) w) w v x → All (req1 k n x) → RelV β (assoc (Sz k n ob)) (Az cx.Av β (assoc (Sz k n ob)) w) w v x := by
  intro v x hr hq
  cases hr with
  | p _ _ h => exact .p _ _ (h.mono hS (fun _ _ => rfl))
  | own k' g off len base c h =>
   refine .own _ _ _ _ _ _ (known k' g _ _ h (fun l b _ hF => hF) fun l e hF => ?_)
   subst e
   simp only [req1,Fx,cond_true,All,and_true] at hq
   exact ⟨hq,hF.2⟩
  | ref k' g off b h => exact .ref _ _ _ _ (known k' g _ _ h (fun _ _ _ h => h) fun _ _ h => h)
  | eref k' g i off b oo h =>
   refine .eref _ _ _ _ _ _ (known k' g _ _ h (fun l b _ hF => hF) fun l e hF => ?_)
   subst e
   simp only [req1,Fx,cond_true,All,and_true] at hq
   exact ⟨hq,hF.2⟩
  | fptr cs b o hs c hc h1 hr => exact .fptr _ _ _ (hS _ hs) c hc h1 (fun j x hx => (hr j x hx).mono hS (fun _ _ => rfl))
  | mref k' g b h => exact .mref _ _ _ (known k' g _ _ h (fun _ _ _ h => h) fun _ _ h => h)
  | und => exact .und
  | any v => exact .any v
  | agg cs vs hl hr h1 => simp [req1,All] at hq
  | tup cs vs hl hr => simp [req1,All] at hq
  | fn f cs vs hl hr => simp [req1,All] at hq
 have all : ∀ (v : Value) (x : MV),RelV β (assoc ob) (Az cx.Av β (assoc ob) w) w v x → All (reqV k n x) → RelV β (assoc (Sz k n ob)) (Az cx.Av β (assoc (Sz k n ob)) w) w v x := by
  intro v x hr hq
  cases hr with
  | agg cs vs hl hr h1 => exact .agg _ _ hl (fun i y hy => one _ _ (hr i y hy) (Yk hq hy)) h1
  | tup cs vs hl hr => exact .tup _ _ hl (fun i y hy => one _ _ (hr i y hy) (Yk hq hy))
  | fn f cs vs hl hr => exact .fn _ _ _ hl (fun i y hy => one _ _ (hr i y hy) (Yk hq hy))
  | p _ _ h => exact one _ _ (.p _ _ h) hq
  | own i g off len base c h => exact one _ _ (.own _ _ _ _ _ _ h) hq
  | ref i g off b h => exact one _ _ (.ref _ _ _ _ h) hq
  | eref i g ix off b oo h => exact one _ _ (.eref _ _ _ _ _ _ h) hq
  | fptr cs b o hs c hc h1 hr => exact one _ _ (.fptr _ _ _ hs c hc h1 hr) hq
  | mref i g b h => exact one _ _ (.mref _ _ _ h) hq
  | und => exact one _ _ .und hq
  | any v => exact one _ _ (.any v) hq
 refine ⟨h.nd,h.sz,fun t => ?_,fun j o' hj => ?_,fun j o' b hj hl hb => ?_,fun j j' o o' b hj hj' hl hl' hne hb => ?_,h.kept,h.avo,h.avlt,h.mle,fun j o' hjm hj hg => ?_⟩
 ·have := h.sl t
  simp only [Aj] at this ⊢
  cases ht : assoc sl t with
  | none => exact .any _
  | some x =>
   rw [ht] at this
   exact all _ _ this (AhM hs ht)
 ·obtain ⟨o,h1,h2,_,h3,h4⟩ := hget j o' hj
  have hr := h.ob j o h1
  by_cases e : j = k
  ·obtain ⟨e1,e2⟩ := h4 e
   rw [e1]
   rw [e2] at hr
   rcases hr with ⟨q1,q2⟩ | ⟨b,oo,cap,cur,e',q0,q1,q2,q3,q4⟩
   ·exact .inl ⟨q1,by omega⟩
   ·exact .inr ⟨b,oo,cap,cur,e',q0,q1,q2,by omega,fun i hi => ⟨(q4 i (by omega)).1,(q4 i (by omega)).2.mono hS (fun _ _ => rfl)⟩⟩
  ·rw [h3 e]
   have hq := AhG ho h1
   cases hbd : o.body with
   | dead => trivial
   | row W' n' f' =>
    rw [hbd] at hr
    rcases hr with q | ⟨b,oo,cap,cur,e',q0,q1,q2,q3,q4⟩
    ·exact .inl q
    ·exact .inr ⟨b,oo,cap,cur,e',q0,q1,q2,q3,fun i hi => ⟨(q4 i hi).1,(q4 i hi).2.mono hS (fun _ _ => rfl)⟩⟩
   | mp z has f' =>
    rw [hbd] at hr
    obtain ⟨b,es,clock,q0,q1,q2,q3,q4⟩ := hr
    exact ⟨b,es,clock,q0,q1,q2,q3,fun i e n he hn => (q4 i e n he hn).mono hS (fun _ _ => rfl)⟩
   | box cs =>
    rw [hbd] at hr hq
    obtain ⟨b,cur,e',q0,q1,q2,q3⟩ := hr
    refine ⟨b,cur,e',q0,q1,q2,fun i x hx => ?_⟩
    obtain ⟨u,u1,u2,u3⟩ := q3 i x hx
    exact ⟨u,u1,u2,one _ _ u3 (Yk hq hx)⟩
 ·obtain ⟨o,h1,h2,h3,_⟩ := hget j o' hj
  exact h.blk j o b h1 (h3.1 hl) hb
 ·obtain ⟨q,h1,_,h3,_⟩ := hget j o hj
  obtain ⟨q',r1,_,r3,_⟩ := hget j' o' hj'
  exact h.inj j j' q q' b h1 r1 (h3.1 hl) (r3.1 hl') hne hb
 ·obtain ⟨o,h1,h2,_⟩ := hget j o' hj
  exact h.oloc j o hjm h1 (by omega)
def cutQ (k n : Nat) (sl : List (Nat × MV)) (ob : List (Nat × Obj)) : Option ((List (Nat × MV) × List (Nat × Obj)) × Prop) :=
 match rowN (assoc ob k) with
 | some n0 => some ((sl,Sz k n ob),n ≤ n0 ∧ All (reqS k n sl ++ reqO k n ob))
 | none => none
theorem Conv.cut (k n : Nat) {sl sl' : List (Nat × MV)} {ob ob' : List (Nat × Obj)} {q : Prop} (hq : q) (h : cutQ k n sl ob = some ((sl',ob'),q) := by kernel_rfl) : Conv cx (Aj sl ob) (Aj sl' ob') := by
 intro β a w hr
 unfold cutQ at h
 split at h
 ·rename_i n0 hn
  simp only [Option.some.injEq,Prod.mk.injEq] at h
  obtain ⟨⟨rfl,rfl⟩,rfl⟩ := h
  have h2 := All_append.1 hq.2
  exact ⟨β,hr.cut hn hq.1 h2.1 h2.2⟩
 ·simp at h
end
end Go.Dm

/- Types of the program. -/
namespace Go.Dm
open Go.Proofs
set_option linter.unusedVariables false
def Tt : Ty := [(3,⟨.int .i64,1,8,[.int .i64 0],false⟩),
  (4,⟨.bool,1,1,[.bool false],false⟩),
  (5,⟨.int .u8,1,1,[.int .u8 0],false⟩),
  (9,⟨.str,1,16,[.string ByteArray.empty],false⟩),
  (22,⟨.slice 3,1,24,[.slice none 0 0],false⟩),
  (23,⟨.slice 57,1,24,[.slice none 0 0],false⟩),
  (25,⟨.struct [(0,23),(1,3)],2,32,[.slice none 0 0,.int .i64 0],false⟩),
  (26,⟨.slice 40,1,24,[.slice none 0 0],false⟩),
  (28,⟨.struct [(0,25),(2,26),(3,3)],4,64,[.slice none 0 0,.int .i64 0,.slice none 0 0,.int .i64 0],false⟩),
  (40,⟨.struct [(0,3),(1,3),(2,3),(3,3)],4,32,[.int .i64 0,.int .i64 0,.int .i64 0,.int .i64 0],false⟩),
  (57,⟨.struct [(0,3),(1,3),(2,9),(3,3),(4,3),(5,3)],6,56,[.int .i64 0,.int .i64 0,.string ByteArray.empty,.int .i64 0,.int .i64 0,.int .i64 0],false⟩),
  (69,⟨.slice 79,1,24,[.slice none 0 0],false⟩),
  (71,⟨.struct [(0,69),(1,22)],2,48,[.slice none 0 0,.slice none 0 0],false⟩),
  (73,⟨.int .i64,1,8,[.int .i64 0],false⟩),
  (79,⟨.struct [(0,3),(1,4),(2,4),(3,3)],4,24,[.int .i64 0,.bool false,.bool false,.int .i64 0],true⟩),
  (111,⟨.struct [(0,22),(1,3)],2,32,[.slice none 0 0,.int .i64 0],false⟩),
  (140,⟨.ptr 143,1,8,[(.pointer none)],false⟩),
  (143,⟨.struct [(0,28),(4,71)],6,112,[.slice none 0 0,.int .i64 0,.slice none 0 0,.int .i64 0,.slice none 0 0,.slice none 0 0],false⟩),
  (165,⟨.slice 9,1,24,[.slice none 0 0],false⟩),
  (167,⟨.map 3 3,1,8,[(.map none)],false⟩),
  (175,⟨.int .u64,1,8,[.int .u64 0],false⟩),
  (192,⟨.int .i64,1,8,[.int .i64 0],false⟩),
  (201,⟨.int .u64,1,8,[.int .u64 0],false⟩),
  (208,⟨.slice 5,1,24,[.slice none 0 0],false⟩),
  (211,⟨.int .u64,1,8,[.int .u64 0],false⟩)]
theorem Tgood : Lg Tryz.prog Tt := tyGood_of ⟨⟨⟨by kernel_rfl,by kernel_rfl⟩,trivial⟩,⟨⟨by kernel_rfl,by kernel_rfl⟩,trivial⟩,⟨⟨by kernel_rfl,by kernel_rfl⟩,trivial⟩,⟨⟨by kernel_rfl,by kernel_rfl⟩,trivial⟩,⟨⟨by kernel_rfl,by kernel_rfl⟩,trivial⟩,⟨⟨by kernel_rfl,by kernel_rfl⟩,trivial⟩,⟨⟨by kernel_rfl,by kernel_rfl⟩,trivial⟩,⟨⟨by kernel_rfl,by kernel_rfl⟩,trivial⟩,⟨⟨by kernel_rfl,by kernel_rfl⟩,trivial⟩,⟨⟨by kernel_rfl,by kernel_rfl⟩,trivial⟩,⟨⟨by kernel_rfl,by kernel_rfl⟩,trivial⟩,⟨⟨by kernel_rfl,by kernel_rfl⟩,trivial⟩,⟨⟨by kernel_rfl,by kernel_rfl⟩,trivial⟩,⟨⟨by kernel_rfl,by kernel_rfl⟩,trivial⟩,⟨⟨by kernel_rfl,by kernel_rfl⟩,⟨by kernel_rfl,by kernel_rfl,by kernel_rfl⟩⟩,⟨⟨by kernel_rfl,by kernel_rfl⟩,trivial⟩,⟨⟨by kernel_rfl,by kernel_rfl⟩,trivial⟩,⟨⟨by kernel_rfl,by kernel_rfl⟩,trivial⟩,⟨⟨by kernel_rfl,by kernel_rfl⟩,trivial⟩,⟨⟨by kernel_rfl,by kernel_rfl⟩,trivial⟩,⟨⟨by kernel_rfl,by kernel_rfl⟩,trivial⟩,⟨⟨by kernel_rfl,by kernel_rfl⟩,trivial⟩,⟨⟨by kernel_rfl,by kernel_rfl⟩,trivial⟩,⟨⟨by kernel_rfl,by kernel_rfl⟩,trivial⟩,⟨⟨by kernel_rfl,by kernel_rfl⟩,trivial⟩,trivial⟩ (by kernel_rfl) (by kernel_rfl)
theorem mixed : Tryz.prog.follows .mixedOrders = true := by kernel_rfl
theorem RK {cx : Cx} {σ : St} {Q : Exit → St → Prop} {nt : Nat} (hnt : cx.nt = nt) {ops : Array Oper} {id : Nat} {draw : Bool} {r : List Code} (xs : List Orc) (sl : List (Nat × MV)) (ob : List (Nat × Obj))
    {q : Prop} (hq : q) (hQ : DW Tryz.prog cx r (Aj sl ob) Q) (h : Vu Tryz.prog Tt nt ops xs (Co sl) (Co ob) draw σ = some ((sl,ob),q) := by kernel_rfl) : DW Tryz.prog cx (.region id ops draw :: r) σ Q := DW.rk Tgood mixed hnt xs sl ob hq h hQ
theorem RD {cx : Cx} {Q : Exit → St → Prop} {nt : Nat} (hnt : cx.nt = nt) {ops : Array Oper} {id : Nat} {draw : Bool} {r : List Code} {sl0 : List (Nat × MV)} {ob0 : List (Nat × Obj)} (xs : List Orc) (ds : List Nat) (us : List (Nat × MV)) (dk : List Nat) (uo : List (Nat × Obj))
    {q : Prop} (hq : q) (hQ : DW Tryz.prog cx r (Aj (up ds us sl0) (up dk uo ob0)) Q) (h : Vu Tryz.prog Tt nt ops xs (Co (up ds us sl0)) (Co (up dk uo ob0)) draw (Aj sl0 ob0) = some ((up ds us sl0,up dk uo ob0),q) := by kernel_rfl) : DW Tryz.prog cx (.region id ops draw :: r) (Aj sl0 ob0) Q := DW.rd Tgood mixed hnt xs ds us dk uo hq hQ h
theorem SO {f : FuncId} {fn : Func} {c : Code} (hf : Tryz.prog.funcs[f]? = some fn) (hb : fn.body = some c)
    {args : List MV} {outs : List Body} {res : MV} {outs' news : List Body} (hlen : outs'.length = outs.length)
    (sl : List (Nat × MV)) (ob : List (Nat × Obj)) (hd : ∀ cx : Cx,cx.nt = fn.ntmps → DW Tryz.prog cx [c] (Aj sl ob) (finQ Tt fn.results.toList outs.length res (outs' ++ news)))
    (hname : fn.name ≠ "runtime.NumGoroutine" := by decide) (hle : Nat.ble args.length fn.ntmps = true := by rfl) (hm : Nat.ble outs.length 1000 = true := by rfl)
    (h1 : Zo (upN args.length 0) (upN outs.length 0) ⟨fun t => (args[t]?).getD .any,Bz outs⟩ = sl := by kernel_rfl)
    (h2 : Tv (upN outs.length 0) ⟨fun t => (args[t]?).getD .any,Bz outs⟩ = ob := by kernel_rfl) :
    Spec Tryz.prog f args outs res outs' news := spec_of Tgood hf hname hb hlen (Nat.le_of_ble_eq_true hle) (Nat.le_of_ble_eq_true hm) h1 h2 fun cx hnt => DW.start (hd cx hnt)
theorem RN {cx : Cx} {σ : St} {Q : Exit → St → Prop} {nt : Nat} (hnt : cx.nt = nt) {ops : Array Oper} {id : Nat} {draw : Bool} {r : List Code} (xs : List Orc) (sl : List (Nat × MV)) (ob : List (Nat × Obj))
    (ps : List (Nat × MV)) (qs : List (Nat × Body)) {q : Prop} (hq : q) (h : Vu Tryz.prog Tt nt ops xs (Co sl) (Co ob) draw σ = some ((Pw ps sl,Og qs ob),q)) (hs : SP sl ps) (ho : OP ob qs)
    (hQ : DW Tryz.prog cx r (Aj sl ob) Q) : DW Tryz.prog cx (.region id ops draw :: r) σ Q := DW.rn Tgood mixed hnt xs sl ob ps qs hq h hs ho hQ
theorem RT {cx : Cx} {σ : St} {nt : Nat} (hnt : cx.nt = nt) {ops : Array Oper} {draw : Bool} {sl : List (Nat × MV)} {ob : List (Nat × Obj)} (xs : List Orc)
    (ps : List (Nat × MV)) {q : Prop} (hq : q) (h : Vu Tryz.prog Tt nt ops xs (Co sl) (Co ob) draw σ = some ((Pw ps sl,ob),q)) (hs : SP sl ps) : RegTo Tryz.prog cx ops draw σ sl ob := RegTo.rn Tgood mixed hnt xs ps hq h hs
end Go.Dm


/- Go functions compute their models, printed by a program. -/
namespace Go.Dm
open Go.Proofs
set_option linter.unusedVariables false
theorem Agu (p0 : List Int) (RES : Bool) (hm : Xo p0 = some RES) : Spec Tryz.prog 13 [.p (slI p0)] [] (pB RES) [] [] := by
 unfold Xo at hm
 refine SO Tryz.func13 rfl rfl [(0,.p (slI p0))] [] ?_
 intro cx hnt
 refine Sq (RK hnt (.no :: []) [(0,.p (slI p0))] [] tv ?_)
 refine Sq (RK hnt (nn 4 []) [(2,pB (decide (((p0.length : Nat) : Int) ≤ 600)))] [] tv ?_)
 obtain rfl := sj hm
 exact DW.ret (Ag [] [] (pB (decide (((p0.length : Nat) : Int) ≤ 600))))
abbrev o2 (ks : List Nat) (b : Bool) (RES : Bool) (sm : List Nat := []) : Orc := .call 13 ks b (pB RES) [] [] sm

abbrev c4e1 := ({ id := 1,parent := 0,name := ByteArray.empty,control := 0,kind := 0,owner := 0 } : An)
abbrev c4e2 := ({ id := 2,parent := 1,name := (bs [97]),control := 0,kind := 0,owner := 0 } : An)
abbrev c4e3 := ({ id := 3,parent := 2,name := (bs [98]),control := 0,kind := 0,owner := 0 } : An)
abbrev c4e4 := ({ id := 1,process := 1,group := 3,user := 0 } : Au)
theorem AfP (RES : Aa) (hm : Abw = some RES) : Spec Tryz.prog 120 [] [] (.agg [ow 0 RES.tree.nodes.length,pI RES.tree.next,ow 1 RES.tasks.length,pI RES.next]) [] [Ah RES.tree.nodes,At RES.tasks] := by
 unfold Abw at hm
 refine SO Tryz.func120 rfl rfl [] [] ?_
 intro cx hnt
 refine Sq (RK hnt (.no :: []) [(0,rr 1000)] [(1000,bx [.p (.sl .nil 0 0 (fun _ => [])),pI 0,.p (.sl .nil 0 0 (fun _ => [])),pI 0])] tv ?_)
 refine Sq (RN hnt (nn 9 []) [(0,rr 1000)] [(1000,bx [ow 1032 [(c4e1),(c4e2),(c4e3)].length,pI 4,ow 1056 [(c4e4)].length,pI 2]),(1032,ob0 (Ah [(c4e1),(c4e2),(c4e3)])),(1056,ob0 (At [(c4e4)]))] [] [(1000,.box [ow 1032 3,pI 4,ow 1056 1,pI 2]),(1032,.row 6 3 (cut 6 [vi 1,vi 0,vs ByteArray.empty,vi 0,vi 0,vi 0,vi 2,vi 1,vs (bs [97]),vi 0,vi 0,vi 0,vi 3,vi 2,vs (bs [98]),vi 0,vi 0,vi 0])),(1056,.row 4 1 (cut 4 [vi 1,vi 1,vi 3,vi 0]))] tv (by kernel_rfl) .nil (.cons rfl (.box (.cons (MLe.ownLen (enc := Ar) (d := Bj) (f := (cut 6 [vi 1,vi 0,vs ByteArray.empty,vi 0,vi 0,vi 0,vi 2,vi 1,vs (bs [97]),vi 0,vi 0,vi 0,vi 3,vi 2,vs (bs [98]),vi 0,vi 0,vi 0])) (RowIs.lit (enc := Ar) (d := Bj) (n := 3) (f := (cut 6 [vi 1,vi 0,vs ByteArray.empty,vi 0,vi 0,vi 0,vi 2,vi 1,vs (bs [97]),vi 0,vi 0,vi 0,vi 3,vi 2,vs (bs [98]),vi 0,vi 0,vi 0])) [(c4e1),(c4e2),(c4e3)] rfl (fun | 0,_ => rfl | 1,_ => rfl | 2,_ => rfl | n + 3,h => absurd h (by omega)))) (.cons .rfl (.cons (MLe.ownLen (enc := Ax) (d := Br) (f := (cut 4 [vi 1,vi 1,vi 3,vi 0])) (RowIs.lit (enc := Ax) (d := Br) (n := 1) (f := (cut 4 [vi 1,vi 1,vi 3,vi 0])) [(c4e4)] rfl (fun | 0,_ => rfl | n + 1,h => absurd h (by omega)))) (.cons .rfl .nil))))) (.cons rfl (BLe.typed (RowIs.lit (enc := Ar) (d := Bj) (n := 3) (f := (cut 6 [vi 1,vi 0,vs ByteArray.empty,vi 0,vi 0,vi 0,vi 2,vi 1,vs (bs [97]),vi 0,vi 0,vi 0,vi 3,vi 2,vs (bs [98]),vi 0,vi 0,vi 0])) [(c4e1),(c4e2),(c4e3)] rfl (fun | 0,_ => rfl | 1,_ => rfl | 2,_ => rfl | n + 3,h => absurd h (by omega)))) (.cons rfl (BLe.typed (RowIs.lit (enc := Ax) (d := Br) (n := 1) (f := (cut 4 [vi 1,vi 1,vi 3,vi 0])) [(c4e4)] rfl (fun | 0,_ => rfl | n + 1,h => absurd h (by omega)))) .nil))) ?_)
 obtain rfl := sj hm
 exact DW.ret (Ag [Ah [(c4e1),(c4e2),(c4e3)],At [(c4e4)]] [1032,1056] (.agg [ow 0 [(c4e1),(c4e2),(c4e3)].length,pI 4,ow 1 [(c4e4)].length,pI 2]))
abbrev o4 (ks : List Nat) (b : Bool) (RES : Aa) (sm : List Nat := []) : Orc := .call 120 ks b (.agg [ow 0 RES.tree.nodes.length,pI RES.tree.next,ow 1 RES.tasks.length,pI RES.next]) [] [Ah RES.tree.nodes,At RES.tasks] sm

theorem AgZ (p0 : An) (RES : Bool) (hm : Aak p0 = some RES) : Spec Tryz.prog 167 [.p (.agg (Ar p0))] [] (pB RES) [] [] := by
 unfold Aak at hm
 refine SO Tryz.func167 rfl rfl [(0,.p (.agg (Ar p0)))] [] ?_
 intro cx hnt
 refine Sq (RK hnt (nn 2 []) [(1,rr 1008)] [(1008,bx (pm (Ar p0)))] tv ?_)
 refine Sq (DW.regJ (sl2 := [(2,pB ((((p0.id == 1) && (p0.parent == 0)) && (Dr p0.name ByteArray.empty)) && (p0.kind == 0)))]) (ob2 := []) ?_ ?_)
 ·rcases bt (p0.id == 1) with h1 | h1
  ·rcases bt (p0.parent == 0) with h2 | h2
   ·rcases bt (Dr p0.name ByteArray.empty) with h3 | h3
    ·exact RT hnt (nn 7 (pT :: nn 4 (pT :: nn 4 (pT :: .no :: [])))) [(2,pB (p0.kind == 0))] (an4 h1 (an4 h2 (an4 h3 tv))) (by kernel_rfl) (.cons rfl (.of_eq (by rw [h1,h2,h3]; try rfl)) .nil)
    ·exact RT hnt (nn 7 (pT :: nn 4 (pT :: .no :: sk 3 (pF :: .no :: [])))) [(2,pB false)] (an4 h1 (an4 h2 (an4 h3 tv))) (by kernel_rfl) (.cons rfl (.of_eq (by rw [h1,h2,h3]; try rfl)) .nil)
   ·exact RT hnt (nn 7 (pT :: .no :: sk 3 (pF :: .no :: sk 3 (pF :: .no :: [])))) [(2,pB false)] (an4 h1 (an4 h2 (an4 ff tv))) (by kernel_rfl) (.cons rfl (.of_eq (by rw [h1,h2]; try rfl)) .nil)
  ·exact RT hnt (nn 4 (sk 3 (pF :: .no :: sk 3 (pF :: .no :: sk 3 (pF :: .no :: []))))) [(2,pB false)] (an4 h1 (an2 ff (an6 ff tv))) (by kernel_rfl) (.cons rfl (.of_eq (by rw [h1]; try rfl)) .nil)
 ·refine DW.ret ?_
  obtain rfl := sj hm
  exact Ag [] [] (pB ((((p0.id == 1) && (p0.parent == 0)) && (Dr p0.name ByteArray.empty)) && (p0.kind == 0)))
abbrev o8 (ks : List Nat) (b : Bool) (RES : Bool) (sm : List Nat := []) : Orc := .call 167 ks b (pB RES) [] [] sm

theorem AfT (p0 : Int) (RES : Bool) (hm : Xt p0 = some RES) : Spec Tryz.prog 236 [.p (vk .u8 p0)] [] (pB RES) [] [] := by
 unfold Xt at hm
 refine SO Tryz.func236 rfl rfl [(0,.p (vk .u8 p0))] [] ?_
 intro cx hnt
 refine Sq (RD hnt (.no :: []) [] [] [] [] tv ?_)
 refine Sq (DW.regJ (sl2 := [(2,pB ((((((decide (p0 ≥ 97)) && (decide (p0 ≤ 122))) || ((decide (p0 ≥ 65)) && (decide (p0 ≤ 90)))) || ((decide (p0 ≥ 48)) && (decide (p0 ≤ 57)))) || (p0 == 95)) || (p0 == 45)))]) (ob2 := []) ?_ ?_)
 ·rcases bt (decide (p0 ≥ 97)) with h1 | h1
  ·rcases bt (decide (p0 ≤ 122)) with h2 | h2
   ·exact RT hnt (nn 5 (pT :: .no :: sk 6 (pT :: .no :: sk 6 (pT :: .no :: sk 2 (pT :: .no :: sk 2 (pT :: .no :: [])))))) [(2,pB true)] (an3 h1 (an5 h2 (an5 tt (an6 tt tv)))) (by kernel_rfl) (.cons rfl (.of_eq (by rw [h1,h2]; try rfl)) .nil)
   ·rcases bt (decide (p0 ≥ 65)) with h3 | h3
    ·rcases bt (decide (p0 ≤ 90)) with h4 | h4
     ·exact RT hnt (nn 5 (pT :: nn 6 (pT :: pF :: .no :: sk 6 (pT :: .no :: sk 2 (pT :: .no :: sk 2 (pT :: .no :: [])))))) [(2,pB true)] (an3 h1 (an3 h2 (an2 h3 (an h2 (an h3 (an h2 (an5 h4 (an6 tt tv)))))))) (by kernel_rfl) (.cons rfl (.of_eq (by rw [h1,h2,h3,h4]; try rfl)) .nil)
     ·rcases bt (decide (p0 ≥ 48)) with h5 | h5
      ·rcases bt (decide (p0 ≤ 57)) with h6 | h6
       ·exact RT hnt (nn 5 (pT :: nn 6 (pT :: pF :: nn 6 (pT :: pF :: .no :: sk 2 (pT :: .no :: sk 2 (pT :: .no :: [])))))) [(2,pB true)] (an3 h1 (an3 h2 (an2 h3 (an h2 (an h3 (an h2 (an3 h4 (an2 h5 (an h4 (an h5 (an h4 (an3 h6 (an3 tt tv))))))))))))) (by kernel_rfl) (.cons rfl (.of_eq (by rw [h1,h2,h3,h4,h5,h6]; try rfl)) .nil)
       ·rcases bt (p0 == 95) with h7 | h7
        ·exact RT hnt (nn 5 (pT :: nn 6 (pT :: pF :: nn 6 (pT :: pF :: nn 3 (pF :: .no :: sk 2 (pT :: .no :: [])))))) [(2,pB true)] (an3 h1 (an3 h2 (an2 h3 (an h2 (an h3 (an h2 (an3 h4 (an2 h5 (an h4 (an h5 (an h4 (an3 h6 (an3 h7 tv))))))))))))) (by kernel_rfl) (.cons rfl (.of_eq (by rw [h1,h2,h3,h4,h5,h6,h7]; try rfl)) .nil)
        ·exact RT hnt (nn 5 (pT :: nn 6 (pT :: pF :: nn 6 (pT :: pF :: nn 3 (pF :: nn 3 (pF :: .no :: [])))))) [(2,pB (p0 == 45))] (an3 h1 (an3 h2 (an2 h3 (an h2 (an h3 (an h2 (an3 h4 (an2 h5 (an h4 (an h5 (an h4 (an3 h6 (an3 h7 tv))))))))))))) (by kernel_rfl) (.cons rfl (.of_eq (by rw [h1,h2,h3,h4,h5,h6,h7]; try rfl)) .nil)
      ·rcases bt (p0 == 95) with h8 | h8
       ·exact RT hnt (nn 5 (pT :: nn 6 (pT :: pF :: nn 4 (sk 2 (pF :: pF :: nn 3 (pF :: .no :: sk 2 (pT :: .no :: []))))))) [(2,pB true)] (an3 h1 (an3 h2 (an2 h3 (an h2 (an h3 (an h2 (an3 h4 (an2 h5 (an h4 (an h5 (an h4 (an3 ff (an3 h8 tv))))))))))))) (by kernel_rfl) (.cons rfl (.of_eq (by rw [h1,h2,h3,h4,h5,h8]; try rfl)) .nil)
       ·exact RT hnt (nn 5 (pT :: nn 6 (pT :: pF :: nn 4 (sk 2 (pF :: pF :: nn 3 (pF :: nn 3 (pF :: .no :: []))))))) [(2,pB (p0 == 45))] (an3 h1 (an3 h2 (an2 h3 (an h2 (an h3 (an h2 (an3 h4 (an2 h5 (an h4 (an h5 (an h4 (an3 ff (an3 h8 tv))))))))))))) (by kernel_rfl) (.cons rfl (.of_eq (by rw [h1,h2,h3,h4,h5,h8]; try rfl)) .nil)
    ·rcases bt (decide (p0 ≥ 48)) with h9 | h9
     ·rcases bt (decide (p0 ≤ 57)) with h10 | h10
      ·exact RT hnt (nn 5 (pT :: nn 4 (sk 2 (pF :: pF :: nn 6 (pT :: pF :: .no :: sk 2 (pT :: .no :: sk 2 (pT :: .no :: []))))))) [(2,pB true)] (an3 h1 (an3 h2 (an2 h3 (an h2 (an h3 (an h2 (an3 ff (an2 h9 (an ff (an h9 (an ff (an3 h10 (an3 tt tv))))))))))))) (by kernel_rfl) (.cons rfl (.of_eq (by rw [h1,h2,h3,h9,h10]; try rfl)) .nil)
      ·rcases bt (p0 == 95) with h11 | h11
       ·exact RT hnt (nn 5 (pT :: nn 4 (sk 2 (pF :: pF :: nn 6 (pT :: pF :: nn 3 (pF :: .no :: sk 2 (pT :: .no :: []))))))) [(2,pB true)] (an3 h1 (an3 h2 (an2 h3 (an h2 (an h3 (an h2 (an3 ff (an2 h9 (an ff (an h9 (an ff (an3 h10 (an3 h11 tv))))))))))))) (by kernel_rfl) (.cons rfl (.of_eq (by rw [h1,h2,h3,h9,h10,h11]; try rfl)) .nil)
       ·exact RT hnt (nn 5 (pT :: nn 4 (sk 2 (pF :: pF :: nn 6 (pT :: pF :: nn 3 (pF :: nn 3 (pF :: .no :: []))))))) [(2,pB (p0 == 45))] (an3 h1 (an3 h2 (an2 h3 (an h2 (an h3 (an h2 (an3 ff (an2 h9 (an ff (an h9 (an ff (an3 h10 (an3 h11 tv))))))))))))) (by kernel_rfl) (.cons rfl (.of_eq (by rw [h1,h2,h3,h9,h10,h11]; try rfl)) .nil)
     ·rcases bt (p0 == 95) with h12 | h12
      ·exact RT hnt (nn 5 (pT :: nn 4 (sk 2 (pF :: pF :: nn 4 (sk 2 (pF :: pF :: nn 3 (pF :: .no :: sk 2 (pT :: .no :: [])))))))) [(2,pB true)] (an3 h1 (an3 h2 (an2 h3 (an h2 (an h3 (an h2 (an3 ff (an2 h9 (an ff (an h9 (an4 ff (an3 h12 tv)))))))))))) (by kernel_rfl) (.cons rfl (.of_eq (by rw [h1,h2,h3,h9,h12]; try rfl)) .nil)
      ·exact RT hnt (nn 5 (pT :: nn 4 (sk 2 (pF :: pF :: nn 4 (sk 2 (pF :: pF :: nn 3 (pF :: nn 3 (pF :: .no :: [])))))))) [(2,pB (p0 == 45))] (an3 h1 (an3 h2 (an2 h3 (an h2 (an h3 (an h2 (an3 ff (an2 h9 (an ff (an h9 (an4 ff (an3 h12 tv)))))))))))) (by kernel_rfl) (.cons rfl (.of_eq (by rw [h1,h2,h3,h9,h12]; try rfl)) .nil)
  ·rcases bt (decide (p0 ≥ 65)) with h13 | h13
   ·rcases bt (decide (p0 ≤ 90)) with h14 | h14
    ·exact RT hnt (nn 3 (sk 2 (pF :: nn 6 (pT :: pF :: .no :: sk 6 (pT :: .no :: sk 2 (pT :: .no :: sk 2 (pT :: .no :: []))))))) [(2,pB true)] (an3 h1 (an3 ff (an2 h13 (an ff (an h13 (an ff (an5 h14 (an6 tt tv)))))))) (by kernel_rfl) (.cons rfl (.of_eq (by rw [h1,h13,h14]; try rfl)) .nil)
    ·rcases bt (decide (p0 ≥ 48)) with h15 | h15
     ·rcases bt (decide (p0 ≤ 57)) with h16 | h16
      ·exact RT hnt (nn 3 (sk 2 (pF :: nn 6 (pT :: pF :: nn 6 (pT :: pF :: .no :: sk 2 (pT :: .no :: sk 2 (pT :: .no :: []))))))) [(2,pB true)] (an3 h1 (an3 ff (an2 h13 (an ff (an h13 (an ff (an3 h14 (an2 h15 (an h14 (an h15 (an h14 (an3 h16 (an3 tt tv))))))))))))) (by kernel_rfl) (.cons rfl (.of_eq (by rw [h1,h13,h14,h15,h16]; try rfl)) .nil)
      ·rcases bt (p0 == 95) with h17 | h17
       ·exact RT hnt (nn 3 (sk 2 (pF :: nn 6 (pT :: pF :: nn 6 (pT :: pF :: nn 3 (pF :: .no :: sk 2 (pT :: .no :: []))))))) [(2,pB true)] (an3 h1 (an3 ff (an2 h13 (an ff (an h13 (an ff (an3 h14 (an2 h15 (an h14 (an h15 (an h14 (an3 h16 (an3 h17 tv))))))))))))) (by kernel_rfl) (.cons rfl (.of_eq (by rw [h1,h13,h14,h15,h16,h17]; try rfl)) .nil)
       ·exact RT hnt (nn 3 (sk 2 (pF :: nn 6 (pT :: pF :: nn 6 (pT :: pF :: nn 3 (pF :: nn 3 (pF :: .no :: []))))))) [(2,pB (p0 == 45))] (an3 h1 (an3 ff (an2 h13 (an ff (an h13 (an ff (an3 h14 (an2 h15 (an h14 (an h15 (an h14 (an3 h16 (an3 h17 tv))))))))))))) (by kernel_rfl) (.cons rfl (.of_eq (by rw [h1,h13,h14,h15,h16,h17]; try rfl)) .nil)
     ·rcases bt (p0 == 95) with h18 | h18
      ·exact RT hnt (nn 3 (sk 2 (pF :: nn 6 (pT :: pF :: nn 4 (sk 2 (pF :: pF :: nn 3 (pF :: .no :: sk 2 (pT :: .no :: [])))))))) [(2,pB true)] (an3 h1 (an3 ff (an2 h13 (an ff (an h13 (an ff (an3 h14 (an2 h15 (an h14 (an h15 (an h14 (an3 ff (an3 h18 tv))))))))))))) (by kernel_rfl) (.cons rfl (.of_eq (by rw [h1,h13,h14,h15,h18]; try rfl)) .nil)
      ·exact RT hnt (nn 3 (sk 2 (pF :: nn 6 (pT :: pF :: nn 4 (sk 2 (pF :: pF :: nn 3 (pF :: nn 3 (pF :: .no :: [])))))))) [(2,pB (p0 == 45))] (an3 h1 (an3 ff (an2 h13 (an ff (an h13 (an ff (an3 h14 (an2 h15 (an h14 (an h15 (an h14 (an3 ff (an3 h18 tv))))))))))))) (by kernel_rfl) (.cons rfl (.of_eq (by rw [h1,h13,h14,h15,h18]; try rfl)) .nil)
   ·rcases bt (decide (p0 ≥ 48)) with h19 | h19
    ·rcases bt (decide (p0 ≤ 57)) with h20 | h20
     ·exact RT hnt (nn 3 (sk 2 (pF :: nn 4 (sk 2 (pF :: pF :: nn 6 (pT :: pF :: .no :: sk 2 (pT :: .no :: sk 2 (pT :: .no :: [])))))))) [(2,pB true)] (an3 h1 (an3 ff (an2 h13 (an ff (an h13 (an4 ff (an2 h19 (an ff (an h19 (an ff (an3 h20 (an3 tt tv)))))))))))) (by kernel_rfl) (.cons rfl (.of_eq (by rw [h1,h13,h19,h20]; try rfl)) .nil)
     ·rcases bt (p0 == 95) with h21 | h21
      ·exact RT hnt (nn 3 (sk 2 (pF :: nn 4 (sk 2 (pF :: pF :: nn 6 (pT :: pF :: nn 3 (pF :: .no :: sk 2 (pT :: .no :: [])))))))) [(2,pB true)] (an3 h1 (an3 ff (an2 h13 (an ff (an h13 (an4 ff (an2 h19 (an ff (an h19 (an ff (an3 h20 (an3 h21 tv)))))))))))) (by kernel_rfl) (.cons rfl (.of_eq (by rw [h1,h13,h19,h20,h21]; try rfl)) .nil)
      ·exact RT hnt (nn 3 (sk 2 (pF :: nn 4 (sk 2 (pF :: pF :: nn 6 (pT :: pF :: nn 3 (pF :: nn 3 (pF :: .no :: [])))))))) [(2,pB (p0 == 45))] (an3 h1 (an3 ff (an2 h13 (an ff (an h13 (an4 ff (an2 h19 (an ff (an h19 (an ff (an3 h20 (an3 h21 tv)))))))))))) (by kernel_rfl) (.cons rfl (.of_eq (by rw [h1,h13,h19,h20,h21]; try rfl)) .nil)
    ·rcases bt (p0 == 95) with h22 | h22
     ·exact RT hnt (nn 3 (sk 2 (pF :: nn 4 (sk 2 (pF :: pF :: nn 4 (sk 2 (pF :: pF :: nn 3 (pF :: .no :: sk 2 (pT :: .no :: []))))))))) [(2,pB true)] (an3 h1 (an3 ff (an2 h13 (an ff (an h13 (an4 ff (an2 h19 (an ff (an h19 (an4 ff (an3 h22 tv))))))))))) (by kernel_rfl) (.cons rfl (.of_eq (by rw [h1,h13,h19,h22]; try rfl)) .nil)
     ·exact RT hnt (nn 3 (sk 2 (pF :: nn 4 (sk 2 (pF :: pF :: nn 4 (sk 2 (pF :: pF :: nn 3 (pF :: nn 3 (pF :: .no :: []))))))))) [(2,pB (p0 == 45))] (an3 h1 (an3 ff (an2 h13 (an ff (an h13 (an4 ff (an2 h19 (an ff (an h19 (an4 ff (an3 h22 tv))))))))))) (by kernel_rfl) (.cons rfl (.of_eq (by rw [h1,h13,h19,h22]; try rfl)) .nil)
 ·refine DW.ret ?_
  obtain rfl := sj hm
  exact Ag [] [] (pB ((((((decide (p0 ≥ 97)) && (decide (p0 ≤ 122))) || ((decide (p0 ≥ 65)) && (decide (p0 ≤ 90)))) || ((decide (p0 ≥ 48)) && (decide (p0 ≤ 57)))) || (p0 == 95)) || (p0 == 45)))
abbrev o11 (ks : List Nat) (b : Bool) (RES : Bool) (sm : List Nat := []) : Orc := .call 236 ks b (pB RES) [] [] sm

theorem Uz (p0 : ByteArray) (RES : Bool) (hm : Uk p0 = some RES) : Spec Tryz.prog 210 [pS p0] [] (pB RES) [] [] := by
 unfold Uk at hm
 refine SO Tryz.func210 rfl rfl [(0,pS p0)] [] ?_
 intro cx hnt
 refine Sq (RK hnt (.no :: []) [(0,pS p0)] [] tv ?_)
 refine Sq (Sq (RN hnt (nn 4 []) [(0,pS p0),(6,.p (Pn 1 (encK .u8) 0 (Hu p0))),(7,pI ((p0.size : Nat) : Int)),(8,pI 0)] [] [(6,.p (.sl .unk 1 p0.size (AaT p0)))] [] tv (by kernel_rfl) (.cons rfl (MLe.typed RowIs.bytes) .nil) .nil ?_))
 refine Bk ?_
 obtain ⟨hc1,hm⟩ := go1 hm
 refine DW.rangeO (fun (k1 : Nat) (s1 : Unit) => Aj [(0,pS p0),(6,.p (Pn 1 (encK .u8) 0 (Hu p0))),(7,pI ((p0.size : Nat) : Int)),(8,pI ((k1 : Nat) : Int))] []) 0 hm .refl ?_
 intro k1 s1 n1 hk1 hs1 he1
 refine Sq (RD hnt (.no :: []) [] [(9,pB (decide (((k1 : Nat) : Int) < ((p0.size : Nat) : Int))))] [] [] tv ?_)
 refine Sq (Cb (decide (((k1 : Nat) : Int) < ((p0.size : Nat) : Int))) ?_ ?_)
 ·intro h15
  have hlt1 : k1 < (Hu p0).length := by have := of_decide_eq_true h15; have := Ou p0; omega
  have hm := hs1 hlt1
  unfold Zg at hm
  refine Sk ?_
  refine Sq (Bk ?_)
  refine Sq (RD hnt (nn 3 []) [9] [(4,.p (vk .u8 ((Hu p0).getD k1 0)))] [] [] (an (nn0 k1) (an (ltc hlt1) tv)) ?_)
  obtain ⟨r16,hr16,hm⟩ := bo hm
  refine Sq (RD hnt (.no :: o11 [] true r16 :: .no :: []) [4] [(14,pB (!r16))] [] [] (an (AfT ((Hu p0).getD k1 0) r16 hr16) tv) ?_)
  refine Ae hm ?_ ?_
  ·intro h17 hm
   refine Sq (RK hnt (.no :: []) [(2,pB false)] [] tv ?_)
   obtain rfl := sj hm
   exact DW.ret (Ag [] [] (pB false))
  ·intro h17 hm
   refine Sk ?_
   refine DW.done ?_
   show DW _ _ _ _ _
   refine RD hnt (nn 2 []) [14] [(8,pI (w64 (((k1 : Nat) : Int) + 1)))] [] [] tv ?_
   exact jD () ⟨hlt1,hm⟩ (Conv.tp [(8,pI (w64 (((k1 : Nat) : Int) + 1)))] [] (by kernel_rfl) (.cons rfl (.of_eq (congrArg pI (Bl hlt1 hc1))) .nil) .nil)
 ·intro h15
  have hge1 : ¬ k1 < (Hu p0).length := by have := of_decide_eq_false h15; have := Ou p0; omega
  have hm := he1 hge1
  unfold Yo at hm
  refine DW.exit ?_
  refine Ao ?_
  refine Aw ?_
  refine Ak ?_
  show DW _ _ _ _ _
  refine Sq ?_
  refine Jn (ι := Bool) (fun (y3 : Bool) => Aj [(2,pB y3)] []) (fun y3 => Ni y3 = some RES) ?_ ?_
  ·intro y3 hm
   unfold Ni at hm
   obtain rfl := sj hm
   exact DW.ret (Ag [] [] (pB y3))
  ·rcases bt (!(Dr p0 ByteArray.empty)) with h18 | h18
   ·replace hm := Bd h18 hm
    rcases bt (decide (((p0.size : Nat) : Int) ≤ 32)) with h19 | h19
    ·replace hm := Bd h19 hm
     obtain ⟨g20,hm⟩ := go1 hm
     refine RK hnt (nn 6 (pT :: nn 4 (pT :: .no :: []))) [(2,pB ((((Bo p0 0) : Nat) : Int) != 45))] [] (an4 h18 (an2 h19 (an (nn0 0) (an (ltc g20) (an2 h19 tv))))) ?_
     exact jD ((((Bo p0 0) : Nat) : Int) != 45) hm .refl
    ·replace hm := Bc h19 hm
     refine RK hnt (nn 6 (pT :: .no :: sk 3 (pF :: .no :: []))) [(2,pB false)] [] (an4 h18 (an4 h19 tv)) ?_
     exact jD false hm .refl
   ·replace hm := Bc h18 hm
    refine RK hnt (nn 3 (sk 3 (pF :: .no :: sk 3 (pF :: .no :: [])))) [(2,pB false)] [] (an4 h18 (an4 ff tv)) ?_
    exact jD false hm .refl
abbrev o10 (ks : List Nat) (b : Bool) (RES : Bool) (sm : List Nat := []) : Orc := .call 210 ks b (pB RES) [] [] sm

abbrev c9e1 (p0 : List An) (k1 : Nat) := (p0.getD k1 (default : An))
abbrev c9e2 (p1 : An) : Nat × Obj := (1024,bx (pm (Ar p1)))
abbrev c9e3 (p0 : List An) : Nat × MV := (35,pI ((p0.length : Nat) : Int))
theorem AgT (p0 : List An) (p1 : An) (RES : Bool) (hm : Vw p0 p1 = some RES) : Spec Tryz.prog 168 [.p (Bb p0),.p (.agg (Ar p1))] [] (pB RES) [] [] := by
 unfold Vw at hm
 refine SO Tryz.func168 rfl rfl [(0,.p (Bb p0)),(1,.p (.agg (Ar p1)))] [] ?_
 intro cx hnt
 refine Sq (RD hnt (nn 2 []) [1] [(3,rr 1024)] [] [(c9e2 p1)] tv ?_)
 obtain ⟨g1,hm⟩ := go1 hm
 refine Sq (Sq ?_)
 refine Jn (ι := Bool) (fun (y1 : Bool) => Aj [(0,.p (Bb p0)),(3,rr 1024),(33,pB y1)] [(c9e2 p1)]) (fun y1 => (Jk p0 p1) y1 = some RES) ?_ ?_
 ·intro y1 hm
  unfold Jk at hm
  refine Ae hm ?_ ?_
  ·intro h6 hm
   refine Sq (RK hnt (.no :: []) [(4,pB false)] [] tv ?_)
   obtain rfl := sj hm
   exact DW.ret (Ag [] [] (pB false))
  ·intro h6 hm
   refine Sk ?_
   refine Sq (RD hnt (.no :: []) [33] [(5,pB false)] [] [] tv ?_)
   refine Sq (Sq (RD hnt (nn 3 []) [0] [(34,.p (Bb p0)),(c9e3 p0),(36,pI 0)] [] [] tv ?_))
   refine Bk ?_
   obtain ⟨hc1,hm⟩ := go1 hm
   refine DW.rangeO (fun (k1 : Nat) (s1 : Bool) => Aj [(3,rr 1024),(5,pB s1),(34,.p (Bb p0)),(c9e3 p0),(36,pI ((k1 : Nat) : Int))] [(c9e2 p1)]) Bj hm Conv.eqK ?_
   intro k1 s1 n1 hk1 hs1 he1
   refine Sq (RD hnt (.no :: []) [] [(37,pB (decide (((k1 : Nat) : Int) < ((p0.length : Nat) : Int))))] [] [] tv ?_)
   refine Sq (Cb (decide (((k1 : Nat) : Int) < ((p0.length : Nat) : Int))) ?_ ?_)
   ·intro h16
    have hlt1 : k1 < p0.length := by have := of_decide_eq_true h16; omega
    have hm := hs1 hlt1
    unfold AaP at hm
    refine Sk ?_
    refine Sq (Bk ?_)
    refine Sq (RD hnt (nn 4 []) [37] [(7,rr 1056)] [] [(1056,bx (pm (Ar (c9e1 p0 k1))))] (an (nn0 k1) (an (ltc hlt1) tv)) ?_)
    refine Sq (DW.regJ (sl2 := [(3,rr 1024),(5,pB (s1 || ((c9e1 p0 k1).id == p1.parent))),(7,rr 1056),(34,.p (Bb p0)),(c9e3 p0),(36,pI ((k1 : Nat) : Int))]) (ob2 := [(c9e2 p1),(1056,bx (pm (Ar (c9e1 p0 k1))))]) ?_ ?_)
    ·rcases bt s1 with h17 | h17
     ·exact RT hnt (nn 2 (sk 5 (pT :: .no :: []))) [(5,pB true)] (an6 h17 tv) (by kernel_rfl) (.cons rfl (.of_eq (by rw [h17]; try rfl)) .nil)
     ·exact RT hnt (nn 7 (pF :: .no :: [])) [(5,pB ((c9e1 p0 k1).id == p1.parent))] (an6 h17 tv) (by kernel_rfl) (.cons rfl (.of_eq (by rw [h17]; try rfl)) .nil)
    ·refine Sq (DW.regJ (sl2 := [(3,rr 1024),(5,pB (s1 || ((c9e1 p0 k1).id == p1.parent))),(34,.p (Bb p0)),(c9e3 p0),(36,pI ((k1 : Nat) : Int)),(59,pB (((c9e1 p0 k1).parent == p1.parent) && (Dr (c9e1 p0 k1).name p1.name)))]) (ob2 := [(c9e2 p1)]) ?_ ?_)
     ·rcases bt ((c9e1 p0 k1).parent == p1.parent) with h18 | h18
      ·exact RT hnt (nn 11 (pT :: [])) [(59,pB (Dr (c9e1 p0 k1).name p1.name))] (an6 h18 tv) (by kernel_rfl) (.cons rfl (.of_eq (by rw [h18]; try rfl)) .nil)
      ·exact RT hnt (nn 6 (sk 5 (pF :: []))) [(59,pB false)] (an6 h18 tv) (by kernel_rfl) (.cons rfl (.of_eq (by rw [h18]; try rfl)) .nil)
     ·refine Ae hm ?_ ?_
      ·intro h19 hm
       refine Sq (RK hnt (.no :: []) [(4,pB false)] [] tv ?_)
       obtain rfl := sj hm
       exact DW.ret (Ag [] [] (pB false))
      ·intro h19 hm
       refine Sk ?_
       refine DW.done ?_
       show DW _ _ _ _ _
       refine RD hnt (nn 2 []) [59] [(36,pI (w64 (((k1 : Nat) : Int) + 1)))] [] [] tv ?_
       exact jD (s1 || ((c9e1 p0 k1).id == p1.parent)) ⟨hlt1,hm⟩ (Conv.tp [(36,pI (w64 (((k1 : Nat) : Int) + 1)))] [] (by kernel_rfl) (.cons rfl (.of_eq (congrArg pI (Bl hlt1 hc1))) .nil) .nil)
   ·intro h16
    have hge1 : ¬ k1 < p0.length := by have := of_decide_eq_false h16; omega
    have hm := he1 hge1
    unfold Aei at hm
    refine DW.exit ?_
    refine Ao ?_
    refine Aw ?_
    refine Ak ?_
    show DW _ _ _ _ _
    refine Sq (RK hnt (nn 2 []) [(4,pB s1)] [] tv ?_)
    obtain rfl := sj hm
    exact DW.ret (Ag [] [] (pB s1))
 ·rcases bt (decide (p1.id ≤ (p0.getD (Int.toNat (w64 (((p0.length : Nat) : Int) - 1))) Bj).id)) with h2 | h2
  ·replace hm := Bd h2 hm
   refine RD hnt (nn 11 (sk 4 (pT :: .no :: sk 8 (pT :: [])))) [] [(33,pB true)] [] [] (an g1.1 (an g1.2 (an5 h2 (an6 tt tv)))) ?_
   exact jD true hm Conv.eqK
  ·replace hm := Bc h2 hm
   obtain ⟨r3,hr3,hm⟩ := bo hm
   rcases bt (!r3) with h4 | h4
   ·replace hm := Bd h4 hm
    refine RD hnt (nn 13 (o10 [] true r3 :: .no :: pF :: .no :: sk 8 (pT :: []))) [] [(33,pB true)] [] [] (an g1.1 (an g1.2 (an3 h2 (an (Uz p1.name r3 hr3) (an2 h2 (an6 h4 tv)))))) ?_
    exact jD true hm Conv.eqK
   ·replace hm := Bc h4 hm
    rcases bt (p1.kind != 0) with h5 | h5
    ·replace hm := Bd h5 hm
     refine RD hnt (nn 13 (o10 [] true r3 :: .no :: pF :: nn 8 (pT :: pF :: []))) [] [(33,pB (p1.kind != 1))] [] [] (an g1.1 (an g1.2 (an3 h2 (an (Uz p1.name r3 hr3) (an2 h2 (an4 h4 (an3 h5 (an h4 (an h5 (an h4 tv)))))))))) ?_
     exact jD (p1.kind != 1) hm Conv.eqK
    ·replace hm := Bc h5 hm
     refine RD hnt (nn 13 (o10 [] true r3 :: .no :: pF :: nn 5 (sk 3 (pF :: pF :: [])))) [] [(33,pB false)] [] [] (an g1.1 (an g1.2 (an3 h2 (an (Uz p1.name r3 hr3) (an2 h2 (an4 h4 (an3 h5 (an h4 (an h5 (an h4 tv)))))))))) ?_
     exact jD false hm Conv.eqK
abbrev o9 (ks : List Nat) (b : Bool) (RES : Bool) (sm : List Nat := []) : Orc := .call 168 ks b (pB RES) [] [] sm

abbrev Pm (p0 : Af) (k1 : Nat) := (p0.nodes.getD k1 (default : An))
abbrev c7e2 (s1 : IMap Int) (p0 : Af) (k1 : Nat) := (s1.set (Pm p0 k1).id (w64 ((s1.get (Pm p0 k1).parent) + 1)))
abbrev c7e3 (p0 : Af) : Nat × MV := (27,pI ((p0.nodes.length : Nat) : Int))
abbrev c7e4 (p0 : Af) : Nat × Obj := (1008,bx (pm (As p0)))
theorem Vi (p0 : Af) (RES : Bool) (hm : Oc p0 = some RES) : Spec Tryz.prog 92 [.p (.agg (As p0))] [] (pB RES) [] [] := by
 unfold Oc at hm
 refine SO Tryz.func92 rfl rfl [(0,.p (.agg (As p0)))] [] ?_
 intro cx hnt
 refine Sq (RK hnt (nn 2 []) [(1,rr 1008)] [(c7e4 p0)] tv ?_)
 refine Sq (Sq ?_)
 refine Jn (ι := Bool) (fun (y1 : Bool) => Aj [(1,rr 1008),(23,pB y1)] [(c7e4 p0)]) (fun y1 => (Nq p0) y1 = some RES) ?_ ?_
 ·intro y1 hm
  unfold Nq at hm
  refine Ae hm ?_ ?_
  ·intro h5 hm
   refine Sq (RK hnt (.no :: []) [(2,pB false)] [] tv ?_)
   obtain rfl := sj hm
   exact DW.ret (Ag [] [] (pB false))
  ·intro h5 hm
   refine Sk ?_
   refine Sq (RD hnt (nn 2 []) [23] [(3,.mref 1192 0)] [] [(1192,ob0 (mapOf vi (vi 0) (IMap.empty 0)))] tv ?_)
   refine Sq (Sq (RD hnt (nn 4 []) [] [(26,.p (Bb p0.nodes)),(c7e3 p0),(28,pI 0)] [] [] tv ?_))
   refine Bk ?_
   obtain ⟨hc1,hm⟩ := go1 hm
   refine DW.rangeO (fun (k1 : Nat) (s1 : IMap Int) => Aj [(1,rr 1008),(3,.mref 1192 0),(26,.p (Bb p0.nodes)),(c7e3 p0),(28,pI ((k1 : Nat) : Int))] [(c7e4 p0),(1192,ob0 (mapOf vi (vi 0) s1))]) Bj hm Conv.eqK ?_
   intro k1 s1 n1 hk1 hs1 he1
   refine Sq (RD hnt (.no :: []) [] [(29,pB (decide (((k1 : Nat) : Int) < ((p0.nodes.length : Nat) : Int))))] [] [] tv ?_)
   refine Sq (Cb (decide (((k1 : Nat) : Int) < ((p0.nodes.length : Nat) : Int))) ?_ ?_)
   ·intro h36
    have hlt1 : k1 < p0.nodes.length := by have := of_decide_eq_true h36; omega
    have hm := hs1 hlt1
    unfold Zi at hm
    refine Sk ?_
    refine Sq (Bk ?_)
    refine Sq (RD hnt (nn 6 []) [29] [(4,pI ((k1 : Nat) : Int)),(5,rr 1040)] [] [(1040,bx (pm (Ar (Pm p0 k1))))] (an (nn0 k1) (an (ltc hlt1) tv)) ?_)
    refine Sq (Sq ?_)
    refine Jn (ι := Bool) (fun (y8 : Bool) => Aj [(1,rr 1008),(3,.mref 1192 0),(4,pI ((k1 : Nat) : Int)),(5,rr 1040),(26,.p (Bb p0.nodes)),(c7e3 p0),(28,pI ((k1 : Nat) : Int)),(64,pB y8)] [(c7e4 p0),(1040,bx (pm (Ar (Pm p0 k1)))),(1192,ob0 (mapOf vi (vi 0) s1))]) (fun y8 => (Ge k1 (Pm p0 k1) s1 n1) y8 = some RES) ?_ ?_
    ·intro y8 hm
     unfold Ge at hm
     refine Ae hm ?_ ?_
     ·intro h44 hm
      refine Sq (RK hnt (.no :: []) [(2,pB false)] [] tv ?_)
      obtain rfl := sj hm
      exact DW.ret (Ag [] [] (pB false))
     ·intro h44 hm
      refine Sk ?_
      refine Sq (Sq (RD hnt (nn 2 []) [4,64] [(66,pB (decide (((k1 : Nat) : Int) > 0)))] [] [] tv ?_))
      refine Jn (ι := IMap Int) (fun (y9 : IMap Int) => Aj [(1,rr 1008),(3,.mref 1192 0),(5,rr 1040),(26,.p (Bb p0.nodes)),(c7e3 p0),(28,pI ((k1 : Nat) : Int))] [(c7e4 p0),(1040,bx (pm (Ar (Pm p0 k1)))),(1192,ob0 (mapOf vi (vi 0) y9))]) (fun y9 => (Qr (Pm p0 k1) n1) y9 = some RES) ?_ ?_
      ·intro y9 hm
       unfold Qr at hm
       refine Sq (RD hnt (nn 5 []) [5] [(79,pB (decide ((y9.get (Pm p0 k1).id) > 8)))] [1040] [] (an (rfl : vi 0 = vi 0) tv) ?_)
       refine Ae hm ?_ ?_
       ·intro h46 hm
        refine Sq (RK hnt (.no :: []) [(2,pB false)] [] tv ?_)
        obtain rfl := sj hm
        exact DW.ret (Ag [] [] (pB false))
       ·intro h46 hm
        refine Sk ?_
        refine DW.done ?_
        show DW _ _ _ _ _
        refine RD hnt (nn 2 []) [79] [(28,pI (w64 (((k1 : Nat) : Int) + 1)))] [] [] tv ?_
        exact jD y9 ⟨hlt1,hm⟩ (Conv.tp [(28,pI (w64 (((k1 : Nat) : Int) + 1)))] [] (by kernel_rfl) (.cons rfl (.of_eq (congrArg pI (Bl hlt1 hc1))) .nil) .nil)
      ·refine Ae hm ?_ ?_
       ·intro h45 hm
        refine RD hnt (nn 8 (.asM (c7e2 s1 p0 k1).has (fun j => vi ((c7e2 s1 p0 k1).get j)) :: [])) [66] [] [] [(1192,ob0 (mapOf vi (vi 0) (c7e2 s1 p0 k1)))] (an (rfl : vi 0 = vi 0) (an (mset_has s1 (Pm p0 k1).id (w64 ((s1.get (Pm p0 k1).parent) + 1))) (an (mset_get vi s1 (Pm p0 k1).id (w64 ((s1.get (Pm p0 k1).parent) + 1))) tv))) ?_
        exact jD (c7e2 s1 p0 k1) hm Conv.eqK
       ·intro h45 hm
        refine Sk ?_
        exact jD s1 hm Conv.t0
    ·rcases bt (decide ((Pm p0 k1).control < 0)) with h37 | h37
     ·replace hm := Bd h37 hm
      refine RD hnt (nn 4 (sk 4 (pT :: .no :: sk 3 (pT :: .no :: sk 3 (pT :: .no :: sk 11 (pT :: [])))))) [] [(64,pB true)] [] [] (an5 h37 (an tt (an6 tt (an6 tt tv)))) ?_
      exact jD true hm Conv.eqK
     ·replace hm := Bc h37 hm
      rcases bt ((Eb .i64 (Pm p0 k1).control 31) != 0) with h38 | h38
      ·replace hm := Bd h38 hm
       refine RD hnt (nn 8 (pF :: .no :: sk 3 (pT :: .no :: sk 3 (pT :: .no :: sk 11 (pT :: []))))) [] [(64,pB true)] [] [] (an5 h37 (an4 h38 (an3 tt (an6 tt tv)))) ?_
       exact jD true hm Conv.eqK
      ·replace hm := Bc h38 hm
       rcases bt (decide ((Pm p0 k1).owner < 0)) with h39 | h39
       ·replace hm := Bd h39 hm
        refine RD hnt (nn 8 (pF :: nn 4 (pF :: .no :: sk 3 (pT :: .no :: sk 11 (pT :: []))))) [] [(64,pB true)] [] [] (an5 h37 (an4 h38 (an4 h39 (an5 tt tv)))) ?_
        exact jD true hm Conv.eqK
       ·replace hm := Bc h39 hm
        rcases bt (decide ((Pm p0 k1).owner > 1048576)) with h40 | h40
        ·replace hm := Bd h40 hm
         refine RD hnt (nn 8 (pF :: nn 4 (pF :: nn 4 (pF :: .no :: sk 11 (pT :: []))))) [] [(64,pB true)] [] [] (an5 h37 (an4 h38 (an4 h39 (an5 h40 tv)))) ?_
         exact jD true hm Conv.eqK
        ·replace hm := Bc h40 hm
         rcases bt (decide (((k1 : Nat) : Int) > 0)) with h41 | h41
         ·replace hm := Bd h41 hm
          obtain ⟨g42,hm⟩ := go1 hm
          obtain ⟨r43,hr43,hm⟩ := bo hm
          refine RD hnt (nn 8 (pF :: nn 4 (pF :: nn 4 (pF :: nn 9 (o9 [] true r43 :: .no :: pT :: pF :: []))))) [] [(64,pB (!r43))] [] [] (an5 h37 (an4 h38 (an4 h39 (an3 h40 (an4 h41 (an (by omega : (0 : Int) ≤ 0) (an (by omega : (0 : Int) ≤ ((k1 : Nat) : Int)) (an (by omega : ((k1 : Nat) : Int) ≤ ((p0.nodes.length : Nat) : Int)) (an2 h41 (an (Spec.args (xs := [.p (.sl .unk 6 k1 (We p0.nodes)),.p (.agg (Ar (Pm p0 k1)))]) (AgT (p0.nodes.take k1) (Pm p0 k1) r43 hr43) (.cons (.p (PLe.typed (RowIs.elems.take (by omega)))) (.cons .rfl .nil))) (an h41 (an h40 (an h41 (an h40 tv)))))))))))))) ?_
          exact jD (!r43) hm Conv.eqK
         ·replace hm := Bc h41 hm
          refine RD hnt (nn 8 (pF :: nn 4 (pF :: nn 4 (pF :: nn 4 (sk 7 (pF :: pF :: [])))))) [] [(64,pB false)] [] [] (an5 h37 (an4 h38 (an4 h39 (an3 h40 (an h41 (an6 h41 (an h40 (an h41 (an h40 tv))))))))) ?_
          exact jD false hm Conv.eqK
   ·intro h36
    have hge1 : ¬ k1 < p0.nodes.length := by have := of_decide_eq_false h36; omega
    have hm := he1 hge1
    unfold Yt at hm
    refine DW.exit ?_
    refine Ao ?_
    refine Aw ?_
    refine Ak ?_
    show DW _ _ _ _ _
    obtain ⟨g47,hm⟩ := go1 hm
    refine Sq ?_
    refine Jn (ι := Bool) (fun (y10 : Bool) => Aj [(2,pB y10)] []) (fun y10 => Ow y10 = some RES) ?_ ?_
    ·intro y10 hm
     unfold Ow at hm
     obtain rfl := sj hm
     exact DW.ret (Ag [] [] (pB y10))
    ·rcases bt (decide (p0.next > (p0.nodes.getD (Int.toNat (w64 (((p0.nodes.length : Nat) : Int) - 1))) Bj).id)) with h48 | h48
     ·replace hm := Bd h48 hm
      refine RK hnt (nn 16 (pT :: .no :: [])) [(2,pB (decide (p0.next ≤ 2147483648)))] [] (an g47.1 (an g47.2 (an4 h48 tv))) ?_
      exact jD (decide (p0.next ≤ 2147483648)) hm .refl
     ·replace hm := Bc h48 hm
      refine RK hnt (nn 13 (sk 3 (pF :: .no :: []))) [(2,pB false)] [] (an g47.1 (an g47.2 (an4 h48 tv))) ?_
      exact jD false hm .refl
 ·rcases bt (decide (((p0.nodes.length : Nat) : Int) < 1)) with h1 | h1
  ·replace hm := Bd h1 hm
   refine RD hnt (nn 5 (sk 4 (pT :: .no :: sk 6 (pT :: [])))) [] [(23,pB true)] [] [] (an5 h1 (an tt (an6 tt tv))) ?_
   exact jD true hm Conv.eqK
  ·replace hm := Bc h1 hm
   rcases bt (decide (((p0.nodes.length : Nat) : Int) > 64)) with h2 | h2
   ·replace hm := Bd h2 hm
    refine RD hnt (nn 9 (pF :: .no :: sk 6 (pT :: []))) [] [(23,pB true)] [] [] (an5 h1 (an h2 (an6 h2 tv))) ?_
    exact jD true hm Conv.eqK
   ·replace hm := Bc h2 hm
    obtain ⟨g3,hm⟩ := go1 hm
    obtain ⟨r4,hr4,hm⟩ := bo hm
    refine RD hnt (nn 9 (pF :: nn 5 (o8 [] true r4 :: .no :: pF :: []))) [] [(23,pB (!r4))] [] [] (an5 h1 (an3 h2 (an (nn0 0) (an (ltc g3) (an2 h2 (an (AgZ (p0.nodes.getD 0 Bj) r4 hr4) (an2 h2 tv))))))) ?_
    exact jD (!r4) hm Conv.eqK
abbrev o7 (ks : List Nat) (b : Bool) (RES : Bool) (sm : List Nat := []) : Orc := .call 92 ks b (pB RES) [] [] sm

theorem AgS (p0 : Au) (p1 : Int) (RES : Bool) (hm : AcV p0 p1 = some RES) : Spec Tryz.prog 205 [.p (.agg (Ax p0)),rr 0] [.box [pI p1]] (pB RES) [.box [pI p1]] [] := by
 unfold AcV at hm
 refine SO Tryz.func205 rfl rfl [(0,.p (.agg (Ax p0))),(1,rr 0)] [(0,bx [pI p1])] ?_
 intro cx hnt
 refine Sq (RD hnt (nn 2 []) [0] [(2,rr 1016)] [] [(1016,bx (pm (Ax p0)))] tv ?_)
 refine Sq (RK hnt (nn 5 []) [(3,pB (p0.id == p1))] [(0,bx [pI p1])] tv ?_)
 obtain rfl := sj hm
 exact DW.ret (Ag [.box [pI p1]] [] (pB (p0.id == p1)))

theorem Qw (p0 : List Au) (p1c0 : Int) (RES : Int) (hm : Fq p0 p1c0 = some RES) : Spec Tryz.prog 204 [.p (Bg p0),.fn 205 [rr 0]] [.box [pI p1c0]] (pI RES) [.box [pI p1c0]] [] := by
 unfold Fq at hm
 refine SO Tryz.func204 rfl rfl [(0,.p (Bg p0)),(1,.fn 205 [rr 0])] [(0,bx [pI p1c0])] ?_
 intro cx hnt
 refine Sq (RD hnt (.no :: []) [] [] [] [] tv ?_)
 refine Sq (Sq (RD hnt (nn 3 []) [] [(7,pI ((p0.length : Nat) : Int)),(8,pI 0)] [] [] tv ?_))
 refine Bk ?_
 obtain ⟨hc1,hm⟩ := go1 hm
 refine DW.rangeO (fun (k1 : Nat) (s1 : Unit) => Aj [(0,.p (Bg p0)),(1,.fn 205 [rr 0]),(7,pI ((p0.length : Nat) : Int)),(8,pI ((k1 : Nat) : Int))] [(0,bx [pI p1c0])]) Br hm Conv.eqK ?_
 intro k1 s1 n1 hk1 hs1 he1
 refine Sq (RD hnt (.no :: []) [] [(9,pB (decide (((k1 : Nat) : Int) < ((p0.length : Nat) : Int))))] [] [] tv ?_)
 refine Sq (Cb (decide (((k1 : Nat) : Int) < ((p0.length : Nat) : Int))) ?_ ?_)
 ·intro h9
  have hlt1 : k1 < p0.length := by have := of_decide_eq_true h9; omega
  have hm := hs1 hlt1
  unfold Ku at hm
  refine Sk ?_
  refine Sq (Bk ?_)
  refine Sq (RD hnt (nn 2 []) [9] [(5,pI ((k1 : Nat) : Int))] [] [] tv ?_)
  obtain ⟨r10,hr10,hm⟩ := bo hm
  refine Sq (RD hnt (nn 5 (.call 205 [0] true (pB r10) [.box [pI p1c0]] [] [] :: [])) [] [(16,pB r10)] [] [] (an (nn0 k1) (an (ltc hlt1) (an (AgS (p0.getD k1 (default : Au)) p1c0 r10 hr10) (an tv tv)))) ?_)
  refine Ae hm ?_ ?_
  ·intro h11 hm
   refine Sq (RK hnt (nn 2 []) [(4,pI ((k1 : Nat) : Int))] [(0,bx [pI p1c0])] tv ?_)
   obtain rfl := sj hm
   exact DW.ret (Ag [.box [pI p1c0]] [] (pI ((k1 : Nat) : Int)))
  ·intro h11 hm
   refine Sk ?_
   refine DW.done ?_
   show DW _ _ _ _ _
   refine RD hnt (nn 2 []) [5,16] [(8,pI (w64 (((k1 : Nat) : Int) + 1)))] [] [] tv ?_
   exact jD () ⟨hlt1,hm⟩ (Conv.tp [(8,pI (w64 (((k1 : Nat) : Int) + 1)))] [] (by kernel_rfl) (.cons rfl (.of_eq (congrArg pI (Bl hlt1 hc1))) .nil) .nil)
 ·intro h9
  have hge1 : ¬ k1 < p0.length := by have := of_decide_eq_false h9; omega
  have hm := he1 hge1
  unfold Kr at hm
  refine DW.exit ?_
  refine Ao ?_
  refine Aw ?_
  refine Ak ?_
  show DW _ _ _ _ _
  refine Sq (RK hnt (.no :: []) [(4,pI (-1))] [(0,bx [pI p1c0])] tv ?_)
  obtain rfl := sj hm
  exact DW.ret (Ag [.box [pI p1c0]] [] (pI (-1)))

theorem AiA (p0 : Aa) (p1 : Int) (RES : Int) (hm : Aba p0 p1 = some RES) : Spec Tryz.prog 155 [.p (.agg (Ab p0)),pI p1] [] (pI RES) [] [] := by
 unfold Aba at hm
 refine SO Tryz.func155 rfl rfl [(0,.p (.agg (Ab p0))),(1,pI p1)] [] ?_
 intro cx hnt
 refine Sq (RK hnt (nn 3 []) [(2,rr 1016),(3,rr 1024)] [(1016,bx (pm (Ab p0))),(1024,bx [pI p1])] tv ?_)
 obtain ⟨r1,hr1,hm⟩ := bo hm
 refine Sq (RK hnt (nn 3 (.call 204 [1024] true (pI r1) [.box [pI p1]] [] [] :: .no :: [])) [(4,pI r1)] [] (an (Qw p0.tasks p1 r1 hr1) (an tv tv)) ?_)
 obtain rfl := sj hm
 exact DW.ret (Ag [] [] (pI r1))
abbrev o14 (ks : List Nat) (b : Bool) (RES : Int) (sm : List Nat := []) : Orc := .call 155 ks b (pI RES) [] [] sm

theorem AbV (p0 : Aa) (p1 : Int) (RES : Au × Bool) (hm : Qs p0 p1 = some RES) : Spec Tryz.prog 97 [.p (.agg (Ab p0)),pI p1] [] (.p (.tup [.agg (Ax RES.1),vb RES.2])) [] [] := by
 unfold Qs at hm
 refine SO Tryz.func97 rfl rfl [(0,.p (.agg (Ab p0))),(1,pI p1)] [] ?_
 intro cx hnt
 refine Sq (RK hnt (nn 3 []) [(1,pI p1),(2,rr 1016),(4,rr 1032)] [(1016,bx (pm (Ab p0))),(1032,bx [pI 0,pI 0,pI 0,pI 0])] tv ?_)
 obtain ⟨r1,hr1,hm⟩ := bo hm
 refine Sq (RD hnt (nn 2 (o14 [] true r1 :: .no :: [])) [1] [(6,pI r1)] [] [] (an (AiA p0 p1 r1 hr1) tv) ?_)
 refine Sq (Sq (RD hnt (nn 2 []) [] [(11,pB (decide (r1 < 0)))] [] [] tv ?_))
 refine Ae hm ?_ ?_
 ·intro h2 hm
  refine Sq (RD hnt (nn 3 []) [2,6,11] [(5,pB false)] [1016] [] tv ?_)
  obtain rfl := sj hm
  exact DW.ret (Ag [] [] (.p (.tup [.agg [vi 0,vi 0,vi 0,vi 0],vb false])))
 ·intro h2 hm
  refine Sk ?_
  obtain ⟨g3,hm⟩ := go1 hm
  refine Sq (RK hnt (nn 7 []) [(4,rr 1032),(5,pB true)] [(1032,bx (pm (Ax (p0.tasks.getD (Int.toNat r1) Br))))] (an g3.1 (an g3.2 tv)) ?_)
  obtain rfl := sj hm
  exact DW.ret (Ag [] [] (.p (.tup [.agg (Ax (p0.tasks.getD (Int.toNat r1) Br)),vb true])))
abbrev o13 (ks : List Nat) (b : Bool) (RES : Au × Bool) (sm : List Nat := []) : Orc := .call 97 ks b (.p (.tup [.agg (Ax RES.1),vb RES.2])) [] [] sm

theorem AeX (p0 : An) (p1 : Int) (RES : Bool) (hm : AaA p0 p1 = some RES) : Spec Tryz.prog 203 [.p (.agg (Ar p0)),rr 0] [.box [pI p1]] (pB RES) [.box [pI p1]] [] := by
 unfold AaA at hm
 refine SO Tryz.func203 rfl rfl [(0,.p (.agg (Ar p0))),(1,rr 0)] [(0,bx [pI p1])] ?_
 intro cx hnt
 refine Sq (RD hnt (nn 2 []) [0] [(2,rr 1016)] [] [(1016,bx (pm (Ar p0)))] tv ?_)
 refine Sq (RK hnt (nn 5 []) [(3,pB (p0.id == p1))] [(0,bx [pI p1])] tv ?_)
 obtain rfl := sj hm
 exact DW.ret (Ag [.box [pI p1]] [] (pB (p0.id == p1)))

theorem Pv (p0 : List An) (p1c0 : Int) (RES : Int) (hm : Fd p0 p1c0 = some RES) : Spec Tryz.prog 202 [.p (Bb p0),.fn 203 [rr 0]] [.box [pI p1c0]] (pI RES) [.box [pI p1c0]] [] := by
 unfold Fd at hm
 refine SO Tryz.func202 rfl rfl [(0,.p (Bb p0)),(1,.fn 203 [rr 0])] [(0,bx [pI p1c0])] ?_
 intro cx hnt
 refine Sq (RD hnt (.no :: []) [] [] [] [] tv ?_)
 refine Sq (Sq (RD hnt (nn 3 []) [] [(7,pI ((p0.length : Nat) : Int)),(8,pI 0)] [] [] tv ?_))
 refine Bk ?_
 obtain ⟨hc1,hm⟩ := go1 hm
 refine DW.rangeO (fun (k1 : Nat) (s1 : Unit) => Aj [(0,.p (Bb p0)),(1,.fn 203 [rr 0]),(7,pI ((p0.length : Nat) : Int)),(8,pI ((k1 : Nat) : Int))] [(0,bx [pI p1c0])]) Bj hm Conv.eqK ?_
 intro k1 s1 n1 hk1 hs1 he1
 refine Sq (RD hnt (.no :: []) [] [(9,pB (decide (((k1 : Nat) : Int) < ((p0.length : Nat) : Int))))] [] [] tv ?_)
 refine Sq (Cb (decide (((k1 : Nat) : Int) < ((p0.length : Nat) : Int))) ?_ ?_)
 ·intro h9
  have hlt1 : k1 < p0.length := by have := of_decide_eq_true h9; omega
  have hm := hs1 hlt1
  unfold Kb at hm
  refine Sk ?_
  refine Sq (Bk ?_)
  refine Sq (RD hnt (nn 2 []) [9] [(5,pI ((k1 : Nat) : Int))] [] [] tv ?_)
  obtain ⟨r10,hr10,hm⟩ := bo hm
  refine Sq (RD hnt (nn 5 (.call 203 [0] true (pB r10) [.box [pI p1c0]] [] [] :: [])) [] [(16,pB r10)] [] [] (an (nn0 k1) (an (ltc hlt1) (an (AeX (p0.getD k1 (default : An)) p1c0 r10 hr10) (an tv tv)))) ?_)
  refine Ae hm ?_ ?_
  ·intro h11 hm
   refine Sq (RK hnt (nn 2 []) [(4,pI ((k1 : Nat) : Int))] [(0,bx [pI p1c0])] tv ?_)
   obtain rfl := sj hm
   exact DW.ret (Ag [.box [pI p1c0]] [] (pI ((k1 : Nat) : Int)))
  ·intro h11 hm
   refine Sk ?_
   refine DW.done ?_
   show DW _ _ _ _ _
   refine RD hnt (nn 2 []) [5,16] [(8,pI (w64 (((k1 : Nat) : Int) + 1)))] [] [] tv ?_
   exact jD () ⟨hlt1,hm⟩ (Conv.tp [(8,pI (w64 (((k1 : Nat) : Int) + 1)))] [] (by kernel_rfl) (.cons rfl (.of_eq (congrArg pI (Bl hlt1 hc1))) .nil) .nil)
 ·intro h9
  have hge1 : ¬ k1 < p0.length := by have := of_decide_eq_false h9; omega
  have hm := he1 hge1
  unfold Ka at hm
  refine DW.exit ?_
  refine Ao ?_
  refine Aw ?_
  refine Ak ?_
  show DW _ _ _ _ _
  refine Sq (RK hnt (.no :: []) [(4,pI (-1))] [(0,bx [pI p1c0])] tv ?_)
  obtain rfl := sj hm
  exact DW.ret (Ag [.box [pI p1c0]] [] (pI (-1)))

theorem Xa (p0 : Af) (p1 : Int) (RES : Int) (hm : Nv p0 p1 = some RES) : Spec Tryz.prog 153 [.p (.agg (As p0)),pI p1] [] (pI RES) [] [] := by
 unfold Nv at hm
 refine SO Tryz.func153 rfl rfl [(0,.p (.agg (As p0))),(1,pI p1)] [] ?_
 intro cx hnt
 refine Sq (RK hnt (nn 3 []) [(2,rr 1016),(3,rr 1024)] [(1016,bx (pm (As p0))),(1024,bx [pI p1])] tv ?_)
 obtain ⟨r1,hr1,hm⟩ := bo hm
 refine Sq (RK hnt (nn 3 (.call 202 [1024] true (pI r1) [.box [pI p1]] [] [] :: .no :: [])) [(4,pI r1)] [] (an (Pv p0.nodes p1 r1 hr1) (an tv tv)) ?_)
 obtain rfl := sj hm
 exact DW.ret (Ag [] [] (pI r1))
abbrev o17 (ks : List Nat) (b : Bool) (RES : Int) (sm : List Nat := []) : Orc := .call 153 ks b (pI RES) [] [] sm

theorem AfA (p0 : Aa) (p1 : Au) (RES : Bool) (hm : Sd p0 p1 = some RES) : Spec Tryz.prog 93 [.p (.agg (Ab p0)),.p (.agg (Ax p1))] [] (pB RES) [] [] := by
 unfold Sd at hm
 refine SO Tryz.func93 rfl rfl [(0,.p (.agg (Ab p0))),(1,.p (.agg (Ax p1)))] [] ?_
 intro cx hnt
 refine Sq (RK hnt (nn 3 []) [(2,rr 1016),(3,rr 1024)] [(1016,bx (pm (Ab p0))),(1024,bx (pm (Ax p1)))] tv ?_)
 obtain ⟨r1,hr1,hm⟩ := bo hm
 refine Sq (RD hnt (nn 3 (o13 [] true r1 :: nn 6 [])) [] [(5,rr 1040),(6,pB r1.2)] [] [(1040,bx (pm (Ax r1.1)))] (an (AbV p0 p1.process r1 hr1) tv) ?_)
 refine Sq ?_
 refine Jn (ι := Bool) (fun (y1 : Bool) => Aj [(4,pB y1)] []) (fun y1 => Hf y1 = some RES) ?_ ?_
 ·intro y1 hm
  unfold Hf at hm
  obtain rfl := sj hm
  exact DW.ret (Ag [] [] (pB y1))
 ·rcases bt (decide (p1.user ≥ 0)) with h2 | h2
  ·replace hm := Bd h2 hm
   rcases bt (decide (p1.user ≤ 1048576)) with h3 | h3
   ·replace hm := Bd h3 hm
    rcases bt r1.2 with h4 | h4
    ·replace hm := Bd h4 hm
     rcases bt (r1.1.process == r1.1.id) with h5 | h5
     ·replace hm := Bd h5 hm
      rcases bt (r1.1.user == p1.user) with h6 | h6
      ·replace hm := Bd h6 hm
       obtain ⟨r7,hr7,hm⟩ := bo hm
       refine RK hnt (nn 7 (pT :: nn 2 (pT :: nn 6 (pT :: nn 6 (pT :: nn 5 (o17 [] true r7 :: .no :: pT :: .no :: [])))))) [(4,pB (decide (r7 ≥ 0)))] [] (an4 h2 (an2 h3 (an6 h4 (an6 h5 (an5 h6 (an (Xa p0.tree p1.group r7 hr7) (an2 h6 tv))))))) ?_
       exact jD (decide (r7 ≥ 0)) hm .refl
      ·replace hm := Bc h6 hm
       refine RK hnt (nn 7 (pT :: nn 2 (pT :: nn 6 (pT :: nn 6 (pT :: .no :: sk 6 (pF :: .no :: [])))))) [(4,pB false)] [] (an4 h2 (an2 h3 (an6 h4 (an6 h5 (an h6 (an6 h6 tv)))))) ?_
       exact jD false hm .refl
     ·replace hm := Bc h5 hm
      refine RK hnt (nn 7 (pT :: nn 2 (pT :: nn 6 (pT :: .no :: sk 5 (pF :: .no :: sk 6 (pF :: .no :: [])))))) [(4,pB false)] [] (an4 h2 (an2 h3 (an6 h4 (an6 h5 (an ff (an6 ff tv)))))) ?_
      exact jD false hm .refl
    ·replace hm := Bc h4 hm
     refine RK hnt (nn 7 (pT :: nn 2 (pT :: .no :: sk 5 (pF :: .no :: sk 5 (pF :: .no :: sk 6 (pF :: .no :: [])))))) [(4,pB false)] [] (an4 h2 (an2 h3 (an6 h4 (an ff (an6 ff (an6 ff tv)))))) ?_
     exact jD false hm .refl
   ·replace hm := Bc h3 hm
    refine RK hnt (nn 7 (pT :: .no :: .skip :: pF :: .no :: sk 5 (pF :: .no :: sk 5 (pF :: .no :: sk 6 (pF :: .no :: []))))) [(4,pB false)] [] (an4 h2 (an2 h3 (an ff (an6 ff (an6 ff (an6 ff tv)))))) ?_
    exact jD false hm .refl
  ·replace hm := Bc h2 hm
   refine RK hnt (nn 4 (sk 3 (pF :: .no :: .skip :: pF :: .no :: sk 5 (pF :: .no :: sk 5 (pF :: .no :: sk 6 (pF :: .no :: [])))))) [(4,pB false)] [] (an4 h2 (an3 ff (an6 ff (an6 ff (an6 ff tv))))) ?_
   exact jD false hm .refl
abbrev o12 (ks : List Nat) (b : Bool) (RES : Bool) (sm : List Nat := []) : Orc := .call 93 ks b (pB RES) [] [] sm

abbrev c6e1 (p0 : Aa) (k1 : Nat) := (p0.tasks.getD k1 (default : Au))
theorem Sx (p0 : Aa) (RES : Bool) (hm : Lh p0 = some RES) : Spec Tryz.prog 18 [.p (.agg (Ab p0))] [] (pB RES) [] [] := by
 unfold Lh at hm
 refine SO Tryz.func18 rfl rfl [(0,.p (.agg (Ab p0)))] [] ?_
 intro cx hnt
 refine Sq (RK hnt (nn 2 []) [(1,rr 1008)] [(1008,bx (pm (Ab p0)))] tv ?_)
 refine Sq (Sq ?_)
 refine Jn (ι := Bool) (fun (y1 : Bool) => Aj [(1,rr 1008),(20,pB y1)] [(1008,bx (pm (Ab p0)))]) (fun y1 => (Kw p0) y1 = some RES) ?_ ?_
 ·intro y1 hm
  unfold Kw at hm
  refine Ae hm ?_ ?_
  ·intro h4 hm
   refine Sq (RK hnt (.no :: []) [(2,pB false)] [] tv ?_)
   obtain rfl := sj hm
   exact DW.ret (Ag [] [] (pB false))
  ·intro h4 hm
   refine Sk ?_
   refine Sq (RD hnt (.no :: []) [20] [(3,pI 0)] [] [] tv ?_)
   refine Sq (Sq (RD hnt (nn 4 []) [] [(22,.p (Bg p0.tasks)),(23,pI ((p0.tasks.length : Nat) : Int)),(24,pI 0)] [] [] tv ?_))
   refine Bk ?_
   obtain ⟨hc1,hm⟩ := go1 hm
   refine DW.rangeO (fun (k1 : Nat) (s1 : Int) => Aj [(1,rr 1008),(3,pI s1),(22,.p (Bg p0.tasks)),(23,pI ((p0.tasks.length : Nat) : Int)),(24,pI ((k1 : Nat) : Int))] [(1008,bx (pm (Ab p0)))]) Br hm Conv.eqK ?_
   intro k1 s1 n1 hk1 hs1 he1
   refine Sq (RD hnt (.no :: []) [] [(25,pB (decide (((k1 : Nat) : Int) < ((p0.tasks.length : Nat) : Int))))] [] [] tv ?_)
   refine Sq (Cb (decide (((k1 : Nat) : Int) < ((p0.tasks.length : Nat) : Int))) ?_ ?_)
   ·intro h15
    have hlt1 : k1 < p0.tasks.length := by have := of_decide_eq_true h15; omega
    have hm := hs1 hlt1
    unfold Vc at hm
    refine Sk ?_
    refine Sq (Bk ?_)
    refine Sq (RD hnt (nn 4 []) [25] [(5,rr 1040)] [] [(1040,bx (pm (Ax (c6e1 p0 k1))))] (an (nn0 k1) (an (ltc hlt1) tv)) ?_)
    refine Sq (Sq ?_)
    refine Jn (ι := Bool) (fun (y4 : Bool) => Aj [(1,rr 1008),(5,rr 1040),(22,.p (Bg p0.tasks)),(23,pI ((p0.tasks.length : Nat) : Int)),(24,pI ((k1 : Nat) : Int)),(37,pB y4)] [(1008,bx (pm (Ab p0))),(1040,bx (pm (Ax (c6e1 p0 k1))))]) (fun y4 => (Nl (c6e1 p0 k1) n1) y4 = some RES) ?_ ?_
    ·intro y4 hm
     unfold Nl at hm
     refine Ae hm ?_ ?_
     ·intro h18 hm
      refine Sq (RK hnt (.no :: []) [(2,pB false)] [] tv ?_)
      obtain rfl := sj hm
      exact DW.ret (Ag [] [] (pB false))
     ·intro h18 hm
      refine Sk ?_
      refine RD hnt (nn 3 []) [5,37] [(3,pI (c6e1 p0 k1).id)] [1040] [] tv ?_
      refine DW.done ?_
      show DW _ _ _ _ _
      refine RD hnt (nn 2 []) [] [(24,pI (w64 (((k1 : Nat) : Int) + 1)))] [] [] tv ?_
      exact jD (c6e1 p0 k1).id ⟨hlt1,hm⟩ (Conv.tp [(24,pI (w64 (((k1 : Nat) : Int) + 1)))] [] (by kernel_rfl) (.cons rfl (.of_eq (congrArg pI (Bl hlt1 hc1))) .nil) .nil)
    ·rcases bt (decide ((c6e1 p0 k1).id ≤ s1)) with h16 | h16
     ·replace hm := Bd h16 hm
      refine RD hnt (nn 5 (sk 4 (pT :: []))) [3] [(37,pB true)] [] [] (an5 h16 tv) ?_
      exact jD true hm Conv.eqK
     ·replace hm := Bc h16 hm
      obtain ⟨r17,hr17,hm⟩ := bo hm
      refine RD hnt (nn 7 (o12 [] true r17 :: .no :: pF :: [])) [3] [(37,pB (!r17))] [] [] (an3 h16 (an (AfA p0 (c6e1 p0 k1) r17 hr17) (an2 h16 tv))) ?_
      exact jD (!r17) hm Conv.eqK
   ·intro h15
    have hge1 : ¬ k1 < p0.tasks.length := by have := of_decide_eq_false h15; omega
    have hm := he1 hge1
    unfold Abf at hm
    refine DW.exit ?_
    refine Ao ?_
    refine Aw ?_
    refine Ak ?_
    show DW _ _ _ _ _
    refine Sq (RK hnt (nn 5 []) [(2,pB (decide (p0.next > s1)))] [] tv ?_)
    obtain rfl := sj hm
    exact DW.ret (Ag [] [] (pB (decide (p0.next > s1))))
 ·rcases bt (decide (((p0.tasks.length : Nat) : Int) > 128)) with h1 | h1
  ·replace hm := Bd h1 hm
   refine RD hnt (nn 5 (sk 3 (pT :: .no :: sk 4 (pT :: [])))) [] [(20,pB true)] [] [] (an4 h1 (an5 tt tv)) ?_
   exact jD true hm Conv.eqK
  ·replace hm := Bc h1 hm
   rcases bt (decide (p0.next > 2147483648)) with h2 | h2
   ·replace hm := Bd h2 hm
    refine RD hnt (nn 8 (pF :: .no :: sk 4 (pT :: []))) [] [(20,pB true)] [] [] (an4 h1 (an5 h2 tv)) ?_
    exact jD true hm Conv.eqK
   ·replace hm := Bc h2 hm
    obtain ⟨r3,hr3,hm⟩ := bo hm
    refine RD hnt (nn 8 (pF :: nn 3 (o7 [] true r3 :: .no :: pF :: []))) [] [(20,pB (!r3))] [] [] (an4 h1 (an3 h2 (an (Vi p0.tree r3 hr3) (an2 h2 tv)))) ?_
    exact jD (!r3) hm Conv.eqK
abbrev o6 (ks : List Nat) (b : Bool) (RES : Bool) (sm : List Nat := []) : Orc := .call 18 ks b (pB RES) [] [] sm

abbrev c5e1 (p0 : Aa) (k1 : Nat) := ({ group := (p0.tree.nodes.getD k1 (default : An)).id,want := false,frozen := false,changes := 0 } : Al)
abbrev c5e2 : Nat × Obj := (1016,bx [.p (.sl .nil 0 0 (fun _ => [])),.p (.sl .nil 0 0 (fun _ => []))])
abbrev c5e3 (p0 : Aa) (k1 : Nat) := (p0.tree.nodes.getD k1 (default : An))
theorem AaW (p0 : Aa) (RES : Ac) (hm : Xv p0 = some RES) : Spec Tryz.prog 51 [.p (.agg (Ab p0))] [] (.agg [ow 0 RES.frosts.length,ow 1 RES.stopped.length]) [] [Am RES.frosts,roI RES.stopped] := by
 unfold Xv at hm
 refine SO Tryz.func51 rfl rfl [(0,.p (.agg (Ab p0)))] [] ?_
 intro cx hnt
 refine Sq (RK hnt (nn 2 []) [(1,rr 1008),(2,rr 1016)] [(1008,bx (pm (Ab p0))),(c5e2)] tv ?_)
 obtain ⟨r1,hr1,hm⟩ := bo hm
 refine Sq (Sq (RD hnt (.no :: o6 [] true r1 :: .no :: []) [] [(8,pB (!r1))] [] [] (an (Sx p0 r1 hr1) tv) ?_))
 refine Ae hm ?_ ?_
 ·intro h2 hm
  refine Sq (RD hnt (nn 2 []) [1,8] [] [1008] [] tv ?_)
  refine DW.cv [] [] [] [(1016,bx [ow 100000 0,ow 100001 0]),(100000,ob0 (Am [])),(100001,ob0 (roI []))] (Conv.ads [(.o 1016 0,100000,4,elems Bh Bi []),(.o 1016 1,100001,1,elems Bn 0 [])]) ?_
  obtain rfl := sj hm
  exact DW.ret (Ag [Am [],roI []] [100000,100001] (.agg [ow 0 0,ow 1 0]))
 ·intro h2 hm
  refine Sk ?_
  refine Sq (RD hnt (.no :: []) [8] [(3,rr 1024)] [] [(1024,bx [.p (.sl .nil 0 0 (fun _ => [])),.p (.sl .nil 0 0 (fun _ => []))])] tv ?_)
  refine Sq (Sq (RD hnt (nn 5 []) [1] [(12,.p (Bb p0.tree.nodes)),(13,pI ((p0.tree.nodes.length : Nat) : Int)),(14,pI 0)] [1008] [] tv ?_))
  refine Bk ?_
  obtain ⟨hc1,hm⟩ := go1 hm
  refine DW.rangeO (fun (k1 : Nat) (s1 : List Al) => Aj [(2,rr 1016),(3,rr 1024),(12,.p (Bb p0.tree.nodes)),(13,pI ((p0.tree.nodes.length : Nat) : Int)),(14,pI ((k1 : Nat) : Int))] [(c5e2),(1024,bx [ow 1192 s1.length,.p (.sl .nil 0 0 (fun _ => []))]),(1192,ob0 (Am s1))]) Bj hm (Conv.ads [(.o 1024 0,1192,4,elems Bh Bi [])]) ?_
  intro k1 s1 n1 hk1 hs1 he1
  refine Sq (RD hnt (.no :: []) [] [(15,pB (decide (((k1 : Nat) : Int) < ((p0.tree.nodes.length : Nat) : Int))))] [] [] tv ?_)
  refine Sq (Cb (decide (((k1 : Nat) : Int) < ((p0.tree.nodes.length : Nat) : Int))) ?_ ?_)
  ·intro h8
   have hlt1 : k1 < p0.tree.nodes.length := by have := of_decide_eq_true h8; omega
   have hm := hs1 hlt1
   unfold Adp at hm
   refine Sk ?_
   refine Sq (Bk ?_)
   refine Sq (RD hnt (nn 4 []) [15] [(5,rr 1040)] [] [(1040,bx (pm (Ar (c5e3 p0 k1))))] (an (nn0 k1) (an (ltc hlt1) tv)) ?_)
   obtain ⟨g9,hm⟩ := go1 hm
   refine RN hnt (nn 9 []) [(2,rr 1016),(3,rr 1024),(12,.p (Bb p0.tree.nodes)),(13,pI ((p0.tree.nodes.length : Nat) : Int)),(14,pI ((k1 : Nat) : Int))] [(c5e2),(1024,bx [ow 1192 (s1 ++ [(c5e1 p0 k1)]).length,.p (.sl .nil 0 0 (fun _ => []))]),(1192,ob0 (Am (s1 ++ [(c5e1 p0 k1)])))] [] [(1024,.box [ow 1192 (s1.length + 1),.p (.sl .nil 0 0 (fun _ => []))]),(1192,.row 4 (s1.length + 1) (Cw s1.length (Lu s1) (cut 4 [vi (c5e3 p0 k1).id,vb false,vb false,vi 0])))] (an (by omega : (s1.length + 1) * 24 ≤ 140737488355328) tv) (by kernel_rfl) .nil (.cons rfl (.box (.cons (MLe.ownLen (enc := Bh) (d := Bi) (f := (Cw s1.length (Lu s1) (cut 4 [vi (c5e3 p0 k1).id,vb false,vb false,vi 0]))) (RowIs.cat RowIs.elems (RowIs.lit (enc := Bh) (d := Bi) (n := 1) (f := (cut 4 [vi (c5e3 p0 k1).id,vb false,vb false,vi 0])) [(c5e1 p0 k1)] rfl (fun | 0,_ => rfl | n + 1,h => absurd h (by omega))))) (.cons .rfl .nil))) (.cons rfl (BLe.typed (RowIs.cat RowIs.elems (RowIs.lit (enc := Bh) (d := Bi) (n := 1) (f := (cut 4 [vi (c5e3 p0 k1).id,vb false,vb false,vi 0])) [(c5e1 p0 k1)] rfl (fun | 0,_ => rfl | n + 1,h => absurd h (by omega))))) .nil)) ?_
   refine DW.done ?_
   show DW _ _ _ _ _
   refine RD hnt (nn 2 []) [] [(14,pI (w64 (((k1 : Nat) : Int) + 1)))] [] [] tv ?_
   exact jD (s1 ++ [(c5e1 p0 k1)]) ⟨hlt1,hm⟩ (Conv.tp [(14,pI (w64 (((k1 : Nat) : Int) + 1)))] [] (by kernel_rfl) (.cons rfl (.of_eq (congrArg pI (Bl hlt1 hc1))) .nil) .nil)
  ·intro h8
   have hge1 : ¬ k1 < p0.tree.nodes.length := by have := of_decide_eq_false h8; omega
   have hm := he1 hge1
   unfold AcM at hm
   refine DW.exit ?_
   refine Ao ?_
   refine Aw ?_
   refine Ak ?_
   show DW _ _ _ _ _
   refine Sq (RD hnt (nn 2 []) [3,12,13,14,15] [] [1024] [(1016,bx [ow 1192 s1.length,.p (.sl .nil 0 0 (fun _ => []))])] tv ?_)
   refine DW.cv [] [] [] [(1016,bx [ow 1192 s1.length,ow 100000 0]),(100000,ob0 (roI []))] (Conv.ads [(.o 1016 1,100000,1,elems Bn 0 [])]) ?_
   obtain rfl := sj hm
   exact DW.ret (Ag [Am s1,roI []] [1192,100000] (.agg [ow 0 s1.length,ow 1 0]))
abbrev o5 (ks : List Nat) (b : Bool) (RES : Ac) (sm : List Nat := []) : Orc := .call 51 ks b (.agg [ow 0 RES.frosts.length,ow 1 RES.stopped.length]) [] [Am RES.frosts,roI RES.stopped] sm

theorem Afz (p0 : Af) (p1 : Int) (RES : An × Bool) (hm : Rx p0 p1 = some RES) : Spec Tryz.prog 195 [.p (.agg (As p0)),pI p1] [] (.p (.tup [.agg (Ar RES.1),vb RES.2])) [] [] := by
 unfold Rx at hm
 refine SO Tryz.func195 rfl rfl [(0,.p (.agg (As p0))),(1,pI p1)] [] ?_
 intro cx hnt
 refine Sq (RK hnt (nn 3 []) [(1,pI p1),(2,rr 1016),(4,rr 1032)] [(1016,bx (pm (As p0))),(1032,bx [pI 0,pI 0,pS ByteArray.empty,pI 0,pI 0,pI 0])] tv ?_)
 obtain ⟨r1,hr1,hm⟩ := bo hm
 refine Sq (RD hnt (nn 2 (o17 [] true r1 :: .no :: [])) [1] [(6,pI r1)] [] [] (an (Xa p0 p1 r1 hr1) tv) ?_)
 refine Sq (Sq (RD hnt (nn 2 []) [] [(11,pB (decide (r1 < 0)))] [] [] tv ?_))
 refine Ae hm ?_ ?_
 ·intro h2 hm
  refine Sq (RD hnt (nn 3 []) [2,6,11] [(5,pB false)] [1016] [] tv ?_)
  obtain rfl := sj hm
  exact DW.ret (Ag [] [] (.p (.tup [.agg [vi 0,vi 0,vs ByteArray.empty,vi 0,vi 0,vi 0],vb false])))
 ·intro h2 hm
  refine Sk ?_
  obtain ⟨g3,hm⟩ := go1 hm
  refine Sq (RK hnt (nn 7 []) [(4,rr 1032),(5,pB true)] [(1032,bx (pm (Ar (p0.nodes.getD (Int.toNat r1) Bj))))] (an g3.1 (an g3.2 tv)) ?_)
  obtain rfl := sj hm
  exact DW.ret (Ag [] [] (.p (.tup [.agg (Ar (p0.nodes.getD (Int.toNat r1) Bj)),vb true])))
abbrev o25 (ks : List Nat) (b : Bool) (RES : An × Bool) (sm : List Nat := []) : Orc := .call 195 ks b (.p (.tup [.agg (Ar RES.1),vb RES.2])) [] [] sm

theorem AbG (p0 : Af) (p1 : Int) (RES : List Int) (hm : Li p0 p1 = some RES) : Spec Tryz.prog 147 [.p (.agg (As p0)),pI p1] [] (ow 0 RES.length) [] [roI RES] := by
 unfold Li at hm
 refine SO Tryz.func147 rfl rfl [(0,.p (.agg (As p0))),(1,pI p1)] [] ?_
 intro cx hnt
 refine Sq (RK hnt (nn 2 []) [(1,pI p1),(2,rr 1016)] [(1016,bx (pm (As p0)))] tv ?_)
 refine Sq (RD hnt (.no :: []) [] [(5,.p (.sl .nil 0 0 (fun _ => [])))] [] [] tv ?_)
 refine Sq (Sq (RD hnt (nn 4 []) [] [(10,pI ((p0.nodes.length : Nat) : Int)),(11,pI 0)] [] [] tv ?_))
 refine Jn (ι := List Int) (fun (y1 : List Int) => Aj [(5,ow 1192 y1.length)] [(1192,ob0 (roI y1))]) (fun y1 => Jv y1 = some RES) ?_ ?_
 ·intro y1 hm
  unfold Jv at hm
  refine Sq (RD hnt (nn 2 []) [5] [(4,ow 1192 y1.length)] [] [] tv ?_)
  obtain rfl := sj hm
  exact DW.ret (Ag [roI y1] [1192] (ow 0 y1.length))
 ·refine Bk ?_
  obtain ⟨hc1,hm⟩ := go1 hm
  refine DW.rangeO (fun (k1 : Nat) (s1 : (List Int) × Int) => Aj [(1,pI s1.2),(2,rr 1016),(5,ow 1192 s1.1.length),(10,pI ((p0.nodes.length : Nat) : Int)),(11,pI ((k1 : Nat) : Int))] [(1016,bx (pm (As p0))),(1192,ob0 (roI s1.1))]) Bj hm (Conv.ads [(.s 5,1192,1,elems Bn 0 [])]) ?_
  intro k1 s1 n1 hk1 hs1 he1
  refine Sq (RD hnt (.no :: []) [] [(12,pB (decide (((k1 : Nat) : Int) < ((p0.nodes.length : Nat) : Int))))] [] [] tv ?_)
  refine Sq (Cb (decide (((k1 : Nat) : Int) < ((p0.nodes.length : Nat) : Int))) ?_ ?_)
  ·intro h8
   have hlt1 : k1 < p0.nodes.length := by have := of_decide_eq_true h8; omega
   have hm := hs1 hlt1
   unfold Px at hm
   refine Sk ?_
   refine Sq (Bk ?_)
   obtain ⟨r9,hr9,hm⟩ := bo hm
   refine Sq (RD hnt (nn 2 (o25 [] true r9 :: nn 6 [])) [12] [(6,rr 1048),(7,pB r9.2)] [] [(1048,bx (pm (Ar r9.1)))] (an (Afz p0 s1.2 r9 hr9) tv) ?_)
   refine Sq (Sq (RD hnt (nn 2 []) [7] [(20,pB (!r9.2))] [] [] tv ?_))
   refine Ae hm ?_ ?_
   ·intro h10 hm
    refine DW.exit ?_
    refine Nk (by decide) ?_
    refine Aw ?_
    refine Ao ?_
    refine Aw ?_
    exact Ak (joinKQ s1.1 hm Conv.t0)
   ·intro h10 hm
    refine Sk ?_
    obtain ⟨g11,hm⟩ := go1 hm
    refine Sq (RN hnt (nn 5 []) [(2,rr 1016),(5,ow 1192 (s1.1 ++ [s1.2]).length),(6,rr 1048),(10,pI ((p0.nodes.length : Nat) : Int)),(11,pI ((k1 : Nat) : Int))] [(1016,bx (pm (As p0))),(1048,bx (pm (Ar r9.1))),(1192,ob0 (roI (s1.1 ++ [s1.2])))] [(5,ow 1192 (s1.1.length + 1))] [(1192,.row 1 (s1.1.length + 1) (Cw s1.1.length (elI s1.1) (cut 1 [vi s1.2])))] (an (by omega : (s1.1.length + 1) * 8 ≤ 140737488355328) tv) (by kernel_rfl) (.cons rfl (MLe.ownLen (enc := Bn) (d := 0) (f := (Cw s1.1.length (elI s1.1) (cut 1 [vi s1.2]))) (RowIs.cat RowIs.elems (RowIs.lit (enc := Bn) (d := 0) (n := 1) (f := (cut 1 [vi s1.2])) [s1.2] rfl (fun | 0,_ => rfl | n + 1,h => absurd h (by omega))))) .nil) (.cons rfl (BLe.typed (RowIs.cat RowIs.elems (RowIs.lit (enc := Bn) (d := 0) (n := 1) (f := (cut 1 [vi s1.2])) [s1.2] rfl (fun | 0,_ => rfl | n + 1,h => absurd h (by omega))))) .nil) ?_)
    refine RD hnt (nn 3 []) [6] [(1,pI r9.1.parent)] [1048] [] tv ?_
    refine DW.done ?_
    show DW _ _ _ _ _
    refine RD hnt (nn 2 []) [] [(11,pI (w64 (((k1 : Nat) : Int) + 1)))] [] [] tv ?_
    exact jD ((s1.1 ++ [s1.2]),r9.1.parent) ⟨hlt1,hm⟩ (Conv.tp [(11,pI (w64 (((k1 : Nat) : Int) + 1)))] [] (by kernel_rfl) (.cons rfl (.of_eq (congrArg pI (Bl hlt1 hc1))) .nil) .nil)
  ·intro h8
   have hge1 : ¬ k1 < p0.nodes.length := by have := of_decide_eq_false h8; omega
   have hm := he1 hge1
   unfold Wk at hm
   refine DW.exit ?_
   refine Ao ?_
   refine Aw ?_
   exact Ak (joinKQ s1.1 hm Conv.t0)
abbrev o24 (ks : List Nat) (b : Bool) (RES : List Int) (sm : List Nat := []) : Orc := .call 147 ks b (ow 0 RES.length) [] [roI RES] sm

theorem Ba (p0 : Ac) (p1 : Int) (RES : Al) (hm : He p0 p1 = some RES) : Spec Tryz.prog 55 [.p (.agg (Ai p0)),pI p1] [] (.p (.agg (Bh RES))) [] [] := by
 unfold He at hm
 refine SO Tryz.func55 rfl rfl [(0,.p (.agg (Ai p0))),(1,pI p1)] [] ?_
 intro cx hnt
 refine Sq (RK hnt (nn 2 []) [(1,pI p1),(2,rr 1016),(4,rr 1032)] [(1016,bx (pm (Ai p0))),(1032,bx [pI 0,pB false,pB false,pI 0])] tv ?_)
 refine Sq (Sq (RD hnt (nn 4 []) [2] [(8,.p (Du p0.frosts)),(9,pI ((p0.frosts.length : Nat) : Int)),(10,pI 0)] [1016] [] tv ?_))
 refine Bk ?_
 obtain ⟨hc1,hm⟩ := go1 hm
 refine DW.rangeO (fun (k1 : Nat) (s1 : Unit) => Aj [(1,pI p1),(4,rr 1032),(8,.p (Du p0.frosts)),(9,pI ((p0.frosts.length : Nat) : Int)),(10,pI ((k1 : Nat) : Int))] [(1032,bx [pI 0,pB false,pB false,pI 0])]) Bi hm Conv.eqK ?_
 intro k1 s1 n1 hk1 hs1 he1
 refine Sq (RD hnt (.no :: []) [] [(11,pB (decide (((k1 : Nat) : Int) < ((p0.frosts.length : Nat) : Int))))] [] [] tv ?_)
 refine Sq (Cb (decide (((k1 : Nat) : Int) < ((p0.frosts.length : Nat) : Int))) ?_ ?_)
 ·intro h7
  have hlt1 : k1 < p0.frosts.length := by have := of_decide_eq_true h7; omega
  have hm := hs1 hlt1
  unfold AcE at hm
  refine Sk ?_
  refine Sq (Bk ?_)
  refine Sq (RD hnt (nn 4 []) [11] [(6,rr 1048)] [] [(1048,bx (pm (Bh (p0.frosts.getD k1 (default : Al)))))] (an (nn0 k1) (an (ltc hlt1) tv)) ?_)
  refine Sq (RD hnt (nn 4 []) [] [(17,pB ((p0.frosts.getD k1 (default : Al)).group == p1))] [] [] tv ?_)
  refine Ae hm ?_ ?_
  ·intro h8 hm
   refine Sq (RK hnt (nn 2 []) [(4,rr 1032)] [(1032,bx (pm (Bh (p0.frosts.getD k1 (default : Al)))))] tv ?_)
   obtain rfl := sj hm
   exact DW.ret (Ag [] [] (.p (.agg (Bh (p0.frosts.getD k1 (default : Al))))))
  ·intro h8 hm
   refine Sk ?_
   refine DW.done ?_
   show DW _ _ _ _ _
   refine RD hnt (nn 2 []) [6,17] [(10,pI (w64 (((k1 : Nat) : Int) + 1)))] [1048] [] tv ?_
   exact jD () ⟨hlt1,hm⟩ (Conv.tp [(10,pI (w64 (((k1 : Nat) : Int) + 1)))] [] (by kernel_rfl) (.cons rfl (.of_eq (congrArg pI (Bl hlt1 hc1))) .nil) .nil)
 ·intro h7
  have hge1 : ¬ k1 < p0.frosts.length := by have := of_decide_eq_false h7; omega
  have hm := he1 hge1
  unfold AcA at hm
  refine DW.exit ?_
  refine Ao ?_
  refine Aw ?_
  refine Ak ?_
  show DW _ _ _ _ _
  refine Sq (RK hnt (nn 3 []) [(4,rr 1032)] [(1032,bx [pI p1,pB false,pB false,pI 0])] tv ?_)
  obtain rfl := sj hm
  exact DW.ret (Ag [] [] (.p (.agg [vi p1,vb false,vb false,vi 0])))
abbrev o26 (ks : List Nat) (b : Bool) (RES : Al) (sm : List Nat := []) : Orc := .call 55 ks b (.p (.agg (Bh RES))) [] [] sm

theorem Iy (p0 : Af) (p1 : Ac) (p2 : Int) (RES : Bool) (hm : Jp p0 p1 p2 = some RES) : Spec Tryz.prog 126 [.p (.agg (As p0)),.p (.agg (Ai p1)),pI p2] [] (pB RES) [] [] := by
 unfold Jp at hm
 refine SO Tryz.func126 rfl rfl [(0,.p (.agg (As p0))),(1,.p (.agg (Ai p1))),(2,pI p2)] [] ?_
 intro cx hnt
 refine Sq (RK hnt (nn 3 []) [(2,pI p2),(3,rr 1024),(4,rr 1032)] [(1024,bx (pm (As p0))),(1032,bx (pm (Ai p1)))] tv ?_)
 obtain ⟨r1,hr1,hm⟩ := bo hm
 refine Sq (Sq (RD hnt (nn 2 (o24 [] true r1 :: nn 2 [])) [2,3] [(11,ow 1088 r1.length),(12,pI ((r1.length : Nat) : Int)),(13,pI 0)] [1024] [(1088,ob0 (roI r1))] (an (AbG p0 p2 r1 hr1) tv) ?_))
 refine Bk ?_
 obtain ⟨hc1,hm⟩ := go1 hm
 refine DW.rangeO (fun (k1 : Nat) (s1 : Unit) => Aj [(4,rr 1032),(11,ow 1088 r1.length),(12,pI ((r1.length : Nat) : Int)),(13,pI ((k1 : Nat) : Int))] [(1032,bx (pm (Ai p1))),(1088,ob0 (roI r1))]) 0 hm Conv.eqK ?_
 intro k1 s1 n1 hk1 hs1 he1
 refine Sq (RD hnt (.no :: []) [] [(14,pB (decide (((k1 : Nat) : Int) < ((r1.length : Nat) : Int))))] [] [] tv ?_)
 refine Sq (Cb (decide (((k1 : Nat) : Int) < ((r1.length : Nat) : Int))) ?_ ?_)
 ·intro h12
  have hlt1 : k1 < r1.length := by have := of_decide_eq_true h12; omega
  have hm := hs1 hlt1
  unfold Us at hm
  refine Sk ?_
  refine Sq (Bk ?_)
  refine Sq (RD hnt (nn 3 []) [14] [(8,pI (r1.getD k1 0))] [] [] (an (nn0 k1) (an (ltc hlt1) (an (by omega : k1 < r1.length) tv))) ?_)
  obtain ⟨r13,hr13,hm⟩ := bo hm
  refine Sq (RD hnt (nn 2 (o26 [] true r13 :: .no :: [])) [8] [(20,pB r13.want)] [] [] (an (Ba p1 (r1.getD k1 0) r13 hr13) tv) ?_)
  refine Ae hm ?_ ?_
  ·intro h14 hm
   refine Sq (RK hnt (.no :: []) [(6,pB true)] [] tv ?_)
   obtain rfl := sj hm
   exact DW.ret (Ag [] [] (pB true))
  ·intro h14 hm
   refine Sk ?_
   refine DW.done ?_
   show DW _ _ _ _ _
   refine RD hnt (nn 2 []) [20] [(13,pI (w64 (((k1 : Nat) : Int) + 1)))] [] [] tv ?_
   exact jD () ⟨hlt1,hm⟩ (Conv.tp [(13,pI (w64 (((k1 : Nat) : Int) + 1)))] [] (by kernel_rfl) (.cons rfl (.of_eq (congrArg pI (Bl hlt1 hc1))) .nil) .nil)
 ·intro h12
  have hge1 : ¬ k1 < r1.length := by have := of_decide_eq_false h12; omega
  have hm := he1 hge1
  unfold AaX at hm
  refine DW.exit ?_
  refine Ao ?_
  refine Aw ?_
  refine Ak ?_
  show DW _ _ _ _ _
  refine Sq (RK hnt (.no :: []) [(6,pB false)] [] tv ?_)
  obtain rfl := sj hm
  exact DW.ret (Ag [] [] (pB false))
abbrev o23 (ks : List Nat) (b : Bool) (RES : Bool) (sm : List Nat := []) : Orc := .call 126 ks b (pB RES) [] [] sm

theorem Rq (p0 : Aa) (p1 : Ac) (p2 : Int) (RES : Bool) (hm : Hc p0 p1 p2 = some RES) : Spec Tryz.prog 140 [.p (.agg (Ab p0)),.p (.agg (Ai p1)),pI p2] [] (pB RES) [] [] := by
 unfold Hc at hm
 refine SO Tryz.func140 rfl rfl [(0,.p (.agg (Ab p0))),(1,.p (.agg (Ai p1))),(2,pI p2)] [] ?_
 intro cx hnt
 refine Sq (RK hnt (nn 3 []) [(2,pI p2),(3,rr 1024),(4,rr 1032)] [(1024,bx (pm (Ab p0))),(1032,bx (pm (Ai p1)))] tv ?_)
 obtain ⟨r1,hr1,hm⟩ := bo hm
 refine Sq (RD hnt (nn 2 (o13 [] true r1 :: nn 6 [])) [2] [(7,rr 1056),(8,pB r1.2)] [] [(1056,bx (pm (Ax r1.1)))] (an (AbV p0 p2 r1 hr1) tv) ?_)
 refine Sq ?_
 refine Jn (ι := Bool) (fun (y1 : Bool) => Aj [(6,pB y1)] []) (fun y1 => Ps y1 = some RES) ?_ ?_
 ·intro y1 hm
  unfold Ps at hm
  obtain rfl := sj hm
  exact DW.ret (Ag [] [] (pB y1))
 ·rcases bt r1.2 with h2 | h2
  ·replace hm := Bd h2 hm
   obtain ⟨r3,hr3,hm⟩ := bo hm
   refine RK hnt (nn 7 (o23 [] true r3 :: pT :: .no :: [])) [(6,pB r3)] [] (an6 h2 (an (Iy p0.tree p1 r1.1.group r3 hr3) (an h2 tv))) ?_
   exact jD r3 hm .refl
  ·replace hm := Bc h2 hm
   refine RK hnt (nn 2 (sk 6 (pF :: .no :: []))) [(6,pB false)] [] (an h2 (an6 h2 tv)) ?_
   exact jD false hm .refl
abbrev o22 (ks : List Nat) (b : Bool) (RES : Bool) (sm : List Nat := []) : Orc := .call 140 ks b (pB RES) [] [] sm

abbrev Ug (p0 : Af) (k1 : Nat) := (p0.nodes.getD k1 (default : An))
abbrev c29e2 (p0 : Af) : Nat × MV := (10,pI ((p0.nodes.length : Nat) : Int))
theorem Acm (p0 : Af) (p1 : Int) (RES : List Int) (hm : Mb p0 p1 = some RES) : Spec Tryz.prog 211 [.p (.agg (As p0)),pI p1] [] (ow 0 RES.length) [] [roI RES] := by
 unfold Mb at hm
 refine SO Tryz.func211 rfl rfl [(0,.p (.agg (As p0))),(1,pI p1)] [] ?_
 intro cx hnt
 refine Sq (RK hnt (nn 2 []) [(1,pI p1),(2,rr 1016)] [(1016,bx (pm (As p0)))] tv ?_)
 refine Sq (RD hnt (.no :: []) [] [(5,.p (.sl .nil 0 0 (fun _ => [])))] [] [] tv ?_)
 refine Sq (Sq (RD hnt (nn 4 []) [2] [(9,.p (Bb p0.nodes)),(c29e2 p0),(11,pI 0)] [1016] [] tv ?_))
 refine Bk ?_
 obtain ⟨hc1,hm⟩ := go1 hm
 refine DW.rangeO (fun (k1 : Nat) (s1 : List Int) => Aj [(1,pI p1),(5,ow 1184 s1.length),(9,.p (Bb p0.nodes)),(c29e2 p0),(11,pI ((k1 : Nat) : Int))] [(1184,ob0 (roI s1))]) Bj hm (Conv.ads [(.s 5,1184,1,elems Bn 0 [])]) ?_
 intro k1 s1 n1 hk1 hs1 he1
 refine Sq (RD hnt (.no :: []) [] [(12,pB (decide (((k1 : Nat) : Int) < ((p0.nodes.length : Nat) : Int))))] [] [] tv ?_)
 refine Sq (Cb (decide (((k1 : Nat) : Int) < ((p0.nodes.length : Nat) : Int))) ?_ ?_)
 ·intro h8
  have hlt1 : k1 < p0.nodes.length := by have := of_decide_eq_true h8; omega
  have hm := hs1 hlt1
  unfold Rl at hm
  refine Sk ?_
  refine Sq ?_
  refine Jn (ι := List Int) (fun (y3 : List Int) => Aj [(1,pI p1),(5,ow 1184 y3.length),(9,.p (Bb p0.nodes)),(c29e2 p0),(11,pI ((k1 : Nat) : Int))] [(1184,ob0 (roI y3))]) (fun y3 => (Kf n1) y3 = some RES) ?_ ?_
  ·intro y3 hm
   unfold Kf at hm
   refine RD hnt (nn 2 []) [] [(11,pI (w64 (((k1 : Nat) : Int) + 1)))] [] [] tv ?_
   exact jD y3 ⟨hlt1,hm⟩ (Conv.tp [(11,pI (w64 (((k1 : Nat) : Int) + 1)))] [] (by kernel_rfl) (.cons rfl (.of_eq (congrArg pI (Bl hlt1 hc1))) .nil) .nil)
  ·refine Bk ?_
   refine Sq (RD hnt (nn 4 []) [12] [(7,rr 1056)] [] [(1056,bx (pm (Ar (Ug p0 k1))))] (an (nn0 k1) (an (ltc hlt1) tv)) ?_)
   refine Sq (RD hnt (nn 4 []) [] [(18,pB ((Ug p0 k1).parent == p1))] [] [] tv ?_)
   refine Ae hm ?_ ?_
   ·intro h9 hm
    obtain ⟨g10,hm⟩ := go1 hm
    refine RN hnt (nn 6 []) [(1,pI p1),(5,ow 1184 (s1 ++ [(Ug p0 k1).id]).length),(9,.p (Bb p0.nodes)),(c29e2 p0),(11,pI ((k1 : Nat) : Int))] [(1184,ob0 (roI (s1 ++ [(Ug p0 k1).id])))] [(5,ow 1184 (s1.length + 1))] [(1184,.row 1 (s1.length + 1) (Cw s1.length (elI s1) (cut 1 [vi (Ug p0 k1).id])))] (an (by omega : (s1.length + 1) * 8 ≤ 140737488355328) tv) (by kernel_rfl) (.cons rfl (MLe.ownLen (enc := Bn) (d := 0) (f := (Cw s1.length (elI s1) (cut 1 [vi (Ug p0 k1).id]))) (RowIs.cat RowIs.elems (RowIs.lit (enc := Bn) (d := 0) (n := 1) (f := (cut 1 [vi (Ug p0 k1).id])) [(Ug p0 k1).id] rfl (fun | 0,_ => rfl | n + 1,h => absurd h (by omega))))) .nil) (.cons rfl (BLe.typed (RowIs.cat RowIs.elems (RowIs.lit (enc := Bn) (d := 0) (n := 1) (f := (cut 1 [vi (Ug p0 k1).id])) [(Ug p0 k1).id] rfl (fun | 0,_ => rfl | n + 1,h => absurd h (by omega))))) .nil) ?_
    exact bD (s1 ++ [(Ug p0 k1).id]) hm .refl
   ·intro h9 hm
    refine Sk ?_
    exact bD s1 hm Conv.t0
 ·intro h8
  have hge1 : ¬ k1 < p0.nodes.length := by have := of_decide_eq_false h8; omega
  have hm := he1 hge1
  unfold Xf at hm
  refine DW.exit ?_
  refine Ao ?_
  refine Aw ?_
  refine Ak ?_
  show DW _ _ _ _ _
  refine Sq (RK hnt (nn 2 []) [(4,ow 1184 s1.length)] [(1184,ob0 (roI s1))] tv ?_)
  obtain rfl := sj hm
  exact DW.ret (Ag [roI s1] [1184] (ow 0 s1.length))
abbrev o29 (ks : List Nat) (b : Bool) (RES : List Int) (sm : List Nat := []) : Orc := .call 211 ks b (ow 0 RES.length) [] [roI RES] sm

abbrev AbS (p0 : Af) : Nat × Obj := (1016,bx (pm (As p0)))
abbrev c28e2 : Nat × MV := (5,.p (.sl .nil 0 0 (fun _ => [])))
theorem Add (p0 : Af) (p1 : Int) (RES : List Int) (hm : Na p0 p1 = some RES) : Spec Tryz.prog 173 [.p (.agg (As p0)),pI p1] [] (ow 0 RES.length) [] [roI RES] := by
 unfold Na at hm
 refine SO Tryz.func173 rfl rfl [(0,.p (.agg (As p0))),(1,pI p1)] [] ?_
 intro cx hnt
 refine Sq (RK hnt (nn 2 []) [(1,pI p1),(2,rr 1016)] [(AbS p0)] tv ?_)
 obtain ⟨r1,hr1,hm⟩ := bo hm
 refine Sq (Sq (RD hnt (nn 2 (o17 [] true r1 :: .no :: [])) [] [(10,pB (decide (r1 < 0)))] [] [] (an (Xa p0 p1 r1 hr1) tv) ?_))
 refine Ae hm ?_ ?_
 ·intro h2 hm
  refine Sq (RK hnt (.no :: []) [(4,.p (.sl .nil 0 0 (fun _ => [])))] [] tv ?_)
  refine DW.cv [] [(4,ow 100000 0)] [] [(100000,ob0 (roI []))] (Conv.ads [(.s 4,100000,1,elems Bn 0 [])]) ?_
  obtain rfl := sj hm
  exact DW.ret (Ag [roI []] [100000] (ow 0 0))
 ·intro h2 hm
  refine Sk ?_
  refine Sq (RD hnt (.no :: []) [10] [(c28e2)] [] [] tv ?_)
  refine Sq (Sq (RN hnt (nn 3 []) [(2,rr 1016),(c28e2),(6,ow 1096 [p1].length)] [(AbS p0),(1096,ob0 (roI [p1]))] [(6,ow 1096 1)] [(1096,.row 1 1 (cut 1 [vi p1]))] tv (by kernel_rfl) (.cons rfl (MLe.ownLen (enc := Bn) (d := 0) (f := (cut 1 [vi p1])) (RowIs.lit (enc := Bn) (d := 0) (n := 1) (f := (cut 1 [vi p1])) [p1] rfl (fun | 0,_ => rfl | n + 1,h => absurd h (by omega)))) .nil) (.cons rfl (BLe.typed (RowIs.lit (enc := Bn) (d := 0) (n := 1) (f := (cut 1 [vi p1])) [p1] rfl (fun | 0,_ => rfl | n + 1,h => absurd h (by omega)))) .nil) ?_))
  refine Bk ?_
  refine DW.whileO (fun (s1 : (List Int) × (List Int)) => Aj [(2,rr 1016),(5,ow 1232 s1.1.length),(6,.p (slI s1.2))] [(AbS p0),(1232,ob0 (roI s1.1))]) hm (Conv.trans (τ := Aj [(2,rr 1016),(c28e2),(6,.p (slI [p1]))] [(AbS p0)]) (Conv.frz [1096]) (Conv.ads [(.s 5,1232,1,elems Bn 0 [])])) ?_
  intro s1 n1 hm
  unfold Sw at hm
  refine Sq (Sq (DW.regJ (sl2 := [(2,rr 1016),(5,ow 1232 s1.1.length),(6,.p (slI s1.2)),(23,pB ((decide (((s1.2.length : Nat) : Int) > 0)) && (decide (((s1.1.length : Nat) : Int) < ((p0.nodes.length : Nat) : Int)))))]) (ob2 := [(AbS p0),(1232,ob0 (roI s1.1))]) ?_ ?_))
  ·rcases bt (decide (((s1.2.length : Nat) : Int) > 0)) with h12 | h12
   ·exact RT hnt (nn 10 (pT :: [])) [(23,pB (decide (((s1.1.length : Nat) : Int) < ((p0.nodes.length : Nat) : Int))))] (an h12 (an6 h12 tv)) (by kernel_rfl) (.cons rfl (.of_eq (by rw [h12]; try rfl)) .nil)
   ·exact RT hnt (nn 4 (sk 6 (pF :: []))) [(23,pB false)] (an h12 (an6 h12 tv)) (by kernel_rfl) (.cons rfl (.of_eq (by rw [h12]; try rfl)) .nil)
  ·refine Ae hm ?_ ?_
   ·intro h13 hm
    refine Sk ?_
    refine Bk ?_
    obtain ⟨g14,g15,hm⟩ := go2 hm
    refine Sq (RN hnt (nn 7 []) [(2,rr 1016),(5,ow 1232 (s1.1 ++ [(s1.2.getD 0 0)]).length),(6,.p (slI s1.2))] [(AbS p0),(1232,ob0 (roI (s1.1 ++ [(s1.2.getD 0 0)])))] [(5,ow 1232 (s1.1.length + 1))] [(1232,.row 1 (s1.1.length + 1) (Cw s1.1.length (elI s1.1) (cut 1 [vi (s1.2.getD 0 0)])))] (an (nn0 0) (an (ltc g14) (an (by omega : (s1.1.length + 1) * 8 ≤ 140737488355328) tv))) (by kernel_rfl) (.cons rfl (MLe.ownLen (enc := Bn) (d := 0) (f := (Cw s1.1.length (elI s1.1) (cut 1 [vi (s1.2.getD 0 0)]))) (RowIs.cat RowIs.elems (RowIs.lit (enc := Bn) (d := 0) (n := 1) (f := (cut 1 [vi (s1.2.getD 0 0)])) [(s1.2.getD 0 0)] rfl (fun | 0,_ => rfl | n + 1,h => absurd h (by omega))))) .nil) (.cons rfl (BLe.typed (RowIs.cat RowIs.elems (RowIs.lit (enc := Bn) (d := 0) (n := 1) (f := (cut 1 [vi (s1.2.getD 0 0)])) [(s1.2.getD 0 0)] rfl (fun | 0,_ => rfl | n + 1,h => absurd h (by omega))))) .nil) ?_)
    obtain ⟨g16,hm⟩ := go1 hm
    obtain ⟨r17,hr17,hm⟩ := bo hm
    obtain ⟨g18,g19,hm⟩ := go2 hm
    refine RN hnt (nn 4 (o29 [] true r17 :: nn 4 [])) [(2,rr 1016),(5,ow 1232 (s1.1 ++ [(s1.2.getD 0 0)]).length),(6,ow 1272 (r17 ++ (s1.2.drop 1)).length)] [(AbS p0),(1232,ob0 (roI (s1.1 ++ [(s1.2.getD 0 0)]))),(1272,ob0 (roI (r17 ++ (s1.2.drop 1))))] [(6,ow 1272 (r17.length + (Of s1.2.length 1)))] [(1272,.row 1 (r17.length + (Of s1.2.length 1)) (Cw r17.length (elI r17) (shF 1 (elI s1.2))))] (an (nn0 0) (an (ltc g16) (an (Acm p0 (s1.2.getD 0 0) r17 hr17) (an (by omega : (0 : Int) ≤ 1) (an (by omega : 1 ≤ ((s1.2.length : Nat) : Int)) (an (by omega : ((s1.2.length : Nat) : Int) ≤ ((s1.2.length : Nat) : Int)) (an (by omega : (r17.length + (Of s1.2.length 1)) * 8 ≤ 140737488355328) tv))))))) (by kernel_rfl) (.cons rfl (MLe.ownLen (enc := Bn) (d := 0) (f := (Cw r17.length (elI r17) (shF 1 (elI s1.2)))) (RowIs.cat RowIs.elems (RowIs.elems.drop (Yc _ _) (by omega)))) .nil) (.cons rfl (BLe.typed (RowIs.cat RowIs.elems (RowIs.elems.drop (Yc _ _) (by omega)))) .nil) ?_
    refine DW.done ?_
    show DW _ _ _ _ _
    exact jD ((s1.1 ++ [(s1.2.getD 0 0)]),(r17 ++ (s1.2.drop 1))) hm (Conv.frz [1272])
   ·intro h13 hm
    refine DW.exit ?_
    refine Ao ?_
    refine Aw ?_
    refine Ak ?_
    show DW _ _ _ _ _
    refine Sq (RK hnt (nn 2 []) [(4,ow 1232 s1.1.length)] [(1232,ob0 (roI s1.1))] tv ?_)
    obtain rfl := sj hm
    exact DW.ret (Ag [roI s1.1] [1232] (ow 0 s1.1.length))
abbrev o28 (ks : List Nat) (b : Bool) (RES : List Int) (sm : List Nat := []) : Orc := .call 173 ks b (ow 0 RES.length) [] [roI RES] sm

theorem AbC (p0 : List Int) (p1 : Int) (RES : Int) (hm : Lm p0 p1 = some RES) : Spec Tryz.prog 186 [.p (slI p0),pI p1] [] (pI RES) [] [] := by
 unfold Lm at hm
 refine SO Tryz.func186 rfl rfl [(0,.p (slI p0)),(1,pI p1)] [] ?_
 intro cx hnt
 refine Sq (RD hnt (.no :: []) [] [] [] [] tv ?_)
 refine Sq (Sq (RD hnt (nn 3 []) [] [(7,pI ((p0.length : Nat) : Int)),(8,pI 0)] [] [] tv ?_))
 refine Bk ?_
 obtain ⟨hc1,hm⟩ := go1 hm
 refine DW.rangeO (fun (k1 : Nat) (s1 : Unit) => Aj [(0,.p (slI p0)),(1,pI p1),(7,pI ((p0.length : Nat) : Int)),(8,pI ((k1 : Nat) : Int))] []) 0 hm Conv.eqK ?_
 intro k1 s1 n1 hk1 hs1 he1
 refine Sq (RD hnt (.no :: []) [] [(9,pB (decide (((k1 : Nat) : Int) < ((p0.length : Nat) : Int))))] [] [] tv ?_)
 refine Sq (Cb (decide (((k1 : Nat) : Int) < ((p0.length : Nat) : Int))) ?_ ?_)
 ·intro h7
  have hlt1 : k1 < p0.length := by have := of_decide_eq_true h7; omega
  have hm := hs1 hlt1
  unfold Vz at hm
  refine Sk ?_
  refine Sq (Bk ?_)
  refine Sq (RD hnt (nn 2 []) [9] [(5,pI ((k1 : Nat) : Int))] [] [] tv ?_)
  refine Sq (RD hnt (nn 6 []) [] [(16,pB (p1 == (p0.getD k1 0)))] [] [] (an (nn0 k1) (an (ltc hlt1) tv)) ?_)
  refine Ae hm ?_ ?_
  ·intro h8 hm
   refine Sq (RK hnt (nn 2 []) [(4,pI ((k1 : Nat) : Int))] [] tv ?_)
   obtain rfl := sj hm
   exact DW.ret (Ag [] [] (pI ((k1 : Nat) : Int)))
  ·intro h8 hm
   refine Sk ?_
   refine DW.done ?_
   show DW _ _ _ _ _
   refine RD hnt (nn 2 []) [5,16] [(8,pI (w64 (((k1 : Nat) : Int) + 1)))] [] [] tv ?_
   exact jD () ⟨hlt1,hm⟩ (Conv.tp [(8,pI (w64 (((k1 : Nat) : Int) + 1)))] [] (by kernel_rfl) (.cons rfl (.of_eq (congrArg pI (Bl hlt1 hc1))) .nil) .nil)
 ·intro h7
  have hge1 : ¬ k1 < p0.length := by have := of_decide_eq_false h7; omega
  have hm := he1 hge1
  unfold Wg at hm
  refine DW.exit ?_
  refine Ao ?_
  refine Aw ?_
  refine Ak ?_
  show DW _ _ _ _ _
  refine Sq (RK hnt (.no :: []) [(4,pI (-1))] [] tv ?_)
  obtain rfl := sj hm
  exact DW.ret (Ag [] [] (pI (-1)))
abbrev o31 (ks : List Nat) (b : Bool) (RES : Int) (sm : List Nat := []) : Orc := .call 186 ks b (pI RES) [] [] sm

theorem Gp (p0 : List Int) (p1 : Int) (RES : Bool) (hm : Ds p0 p1 = some RES) : Spec Tryz.prog 127 [.p (slI p0),pI p1] [] (pB RES) [] [] := by
 unfold Ds at hm
 refine SO Tryz.func127 rfl rfl [(0,.p (slI p0)),(1,pI p1)] [] ?_
 intro cx hnt
 refine Sq (RD hnt (.no :: []) [] [] [] [] tv ?_)
 obtain ⟨r1,hr1,hm⟩ := bo hm
 refine Sq (RK hnt (nn 2 (o31 [] true r1 :: nn 2 [])) [(4,pB (decide (r1 ≥ 0)))] [] (an (AbC p0 p1 r1 hr1) tv) ?_)
 obtain rfl := sj hm
 exact DW.ret (Ag [] [] (pB (decide (r1 ≥ 0))))
abbrev o30 (ks : List Nat) (b : Bool) (RES : Bool) (sm : List Nat := []) : Orc := .call 127 ks b (pB RES) [] [] sm

theorem Ed (p0 : Ac) (p1 : Int) (RES : Bool) (hm : Gm p0 p1 = some RES) : Spec Tryz.prog 58 [.p (.agg (Ai p0)),pI p1] [] (pB RES) [] [] := by
 unfold Gm at hm
 refine SO Tryz.func58 rfl rfl [(0,.p (.agg (Ai p0))),(1,pI p1)] [] ?_
 intro cx hnt
 refine Sq (RK hnt (nn 2 []) [(1,pI p1),(2,rr 1016)] [(1016,bx (pm (Ai p0)))] tv ?_)
 obtain ⟨r1,hr1,hm⟩ := bo hm
 refine Sq (RK hnt (nn 3 (o30 [] true r1 :: .no :: [])) [(4,pB r1)] [] (an (Gp p0.stopped p1 r1 hr1) tv) ?_)
 obtain rfl := sj hm
 exact DW.ret (Ag [] [] (pB r1))
abbrev o32 (ks : List Nat) (b : Bool) (RES : Bool) (sm : List Nat := []) : Orc := .call 58 ks b (pB RES) [] [] sm

theorem Aam (p0 : Aa) (p1 : Ac) (p2 : Int) (RES : Bool) (hm : Mm p0 p1 p2 = some RES) : Spec Tryz.prog 141 [.p (.agg (Ab p0)),.p (.agg (Ai p1)),pI p2] [] (pB RES) [] [] := by
 unfold Mm at hm
 refine SO Tryz.func141 rfl rfl [(0,.p (.agg (Ab p0))),(1,.p (.agg (Ai p1))),(2,pI p2)] [] ?_
 intro cx hnt
 refine Sq (RK hnt (nn 3 []) [(2,pI p2),(3,rr 1024),(4,rr 1032)] [(1024,bx (pm (Ab p0))),(1032,bx (pm (Ai p1)))] tv ?_)
 obtain ⟨r1,hr1,hm⟩ := bo hm
 refine Sq (Sq (RD hnt (nn 4 (o23 [] true r1 :: .no :: [])) [] [(15,pB (!r1))] [] [] (an (Iy p0.tree p1 p2 r1 hr1) tv) ?_))
 refine Ae hm ?_ ?_
 ·intro h2 hm
  refine Sq (RK hnt (.no :: []) [(6,pB false)] [] tv ?_)
  obtain rfl := sj hm
  exact DW.ret (Ag [] [] (pB false))
 ·intro h2 hm
  refine Sk ?_
  obtain ⟨r3,hr3,hm⟩ := bo hm
  refine Sq (RD hnt (nn 3 (o28 [] true r3 :: .no :: [])) [2,15] [(7,ow 1152 r3.length)] [] [(1152,ob0 (roI r3))] (an (Add p0.tree p2 r3 hr3) tv) ?_)
  refine Sq (Sq (RD hnt (nn 4 []) [3] [(21,.p (Bg p0.tasks)),(22,pI ((p0.tasks.length : Nat) : Int)),(23,pI 0)] [1024] [] tv ?_))
  refine Bk ?_
  obtain ⟨hc1,hm⟩ := go1 hm
  refine DW.rangeO (fun (k1 : Nat) (s1 : Unit) => Aj [(4,rr 1032),(7,ow 1152 r3.length),(21,.p (Bg p0.tasks)),(22,pI ((p0.tasks.length : Nat) : Int)),(23,pI ((k1 : Nat) : Int))] [(1032,bx (pm (Ai p1))),(1152,ob0 (roI r3))]) Br hm Conv.eqK ?_
  intro k1 s1 n1 hk1 hs1 he1
  refine Sq (RD hnt (.no :: []) [] [(24,pB (decide (((k1 : Nat) : Int) < ((p0.tasks.length : Nat) : Int))))] [] [] tv ?_)
  refine Sq (Cb (decide (((k1 : Nat) : Int) < ((p0.tasks.length : Nat) : Int))) ?_ ?_)
  ·intro h16
   have hlt1 : k1 < p0.tasks.length := by have := of_decide_eq_true h16; omega
   have hm := hs1 hlt1
   unfold Xd at hm
   refine Sk ?_
   refine Sq (Bk ?_)
   refine Sq (RD hnt (nn 4 []) [24] [(9,rr 1072)] [] [(1072,bx (pm (Ax (p0.tasks.getD k1 (default : Au)))))] (an (nn0 k1) (an (ltc hlt1) tv)) ?_)
   obtain ⟨r17,hr17,hm⟩ := bo hm
   refine Sq ?_
   refine Jn (ι := Bool) (fun (y3 : Bool) => Aj [(4,rr 1032),(7,ow 1152 r3.length),(21,.p (Bg p0.tasks)),(22,pI ((p0.tasks.length : Nat) : Int)),(23,pI ((k1 : Nat) : Int)),(37,pB y3)] [(1032,bx (pm (Ai p1))),(1152,ob0 (roI r3))]) (fun y3 => (On n1) y3 = some RES) ?_ ?_
   ·intro y3 hm
    unfold On at hm
    refine Ae hm ?_ ?_
    ·intro h20 hm
     refine Sq (RK hnt (.no :: []) [(6,pB false)] [] tv ?_)
     obtain rfl := sj hm
     exact DW.ret (Ag [] [] (pB false))
    ·intro h20 hm
     refine Sk ?_
     refine DW.done ?_
     show DW _ _ _ _ _
     refine RD hnt (nn 2 []) [37] [(23,pI (w64 (((k1 : Nat) : Int) + 1)))] [] [] tv ?_
     exact jD () ⟨hlt1,hm⟩ (Conv.tp [(23,pI (w64 (((k1 : Nat) : Int) + 1)))] [] (by kernel_rfl) (.cons rfl (.of_eq (congrArg pI (Bl hlt1 hc1))) .nil) .nil)
   ·rcases bt r17 with h18 | h18
    ·replace hm := Bd h18 hm
     obtain ⟨r19,hr19,hm⟩ := bo hm
     refine RD hnt (nn 3 (o30 [] true r17 :: nn 4 (o32 [] true r19 :: .no :: pT :: []))) [9] [(37,pB (!r19))] [1072] [] (an (Gp r3 (p0.tasks.getD k1 (default : Au)).group r17 hr17) (an4 h18 (an (Ed p1 (p0.tasks.getD k1 (default : Au)).id r19 hr19) (an2 h18 tv)))) ?_
     exact jD (!r19) hm Conv.eqK
    ·replace hm := Bc h18 hm
     refine RD hnt (nn 3 (o30 [] true r17 :: .no :: sk 5 (pF :: []))) [9] [(37,pB false)] [1072] [] (an (Gp r3 (p0.tasks.getD k1 (default : Au)).group r17 hr17) (an6 h18 tv)) ?_
     exact jD false hm Conv.eqK
  ·intro h16
   have hge1 : ¬ k1 < p0.tasks.length := by have := of_decide_eq_false h16; omega
   have hm := he1 hge1
   unfold AbT at hm
   refine DW.exit ?_
   refine Ao ?_
   refine Aw ?_
   refine Ak ?_
   show DW _ _ _ _ _
   refine Sq (RK hnt (.no :: []) [(6,pB true)] [] tv ?_)
   obtain rfl := sj hm
   exact DW.ret (Ag [] [] (pB true))
abbrev o27 (ks : List Nat) (b : Bool) (RES : Bool) (sm : List Nat := []) : Orc := .call 141 ks b (pB RES) [] [] sm

abbrev AbB (p0 : Aa) : Nat × Obj := (1016,bx (pm (Ab p0)))
abbrev AbI (p1 : Ac) : Nat × Obj := (1024,bx (pm (Ai p1)))
abbrev c21e3 (p1 : Ac) (k1 : Nat) := (p1.frosts.getD k1 (default : Al))
theorem Yn (p0 : Aa) (p1 : Ac) (RES : Bool) (hm : Mw p0 p1 = some RES) : Spec Tryz.prog 66 [.p (.agg (Ab p0)),.p (.agg (Ai p1))] [] (pB RES) [] [] := by
 unfold Mw at hm
 refine SO Tryz.func66 rfl rfl [(0,.p (.agg (Ab p0))),(1,.p (.agg (Ai p1)))] [] ?_
 intro cx hnt
 refine Sq (RK hnt (nn 3 []) [(2,rr 1016),(3,rr 1024)] [(AbB p0),(AbI p1)] tv ?_)
 obtain ⟨r1,hr1,hm⟩ := bo hm
 refine Sq (Sq ?_)
 refine Jn (ι := Bool) (fun (y1 : Bool) => Aj [(2,rr 1016),(3,rr 1024),(23,pB y1)] [(AbB p0),(AbI p1)]) (fun y1 => (Mv p0 p1) y1 = some RES) ?_ ?_
 ·intro y1 hm
  unfold Mv at hm
  refine Ae hm ?_ ?_
  ·intro h3 hm
   refine Sq (RK hnt (.no :: []) [(4,pB false)] [] tv ?_)
   obtain rfl := sj hm
   exact DW.ret (Ag [] [] (pB false))
  ·intro h3 hm
   refine Sk ?_
   refine Sq (Sq (RD hnt (nn 4 []) [23] [(25,.p (Du p1.frosts)),(26,pI ((p1.frosts.length : Nat) : Int)),(27,pI 0)] [] [] tv ?_))
   refine Bk ?_
   obtain ⟨hc1,hm⟩ := go1 hm
   refine DW.rangeO (fun (k1 : Nat) (s1 : Unit) => Aj [(2,rr 1016),(3,rr 1024),(25,.p (Du p1.frosts)),(26,pI ((p1.frosts.length : Nat) : Int)),(27,pI ((k1 : Nat) : Int))] [(AbB p0),(AbI p1)]) Bi hm Conv.eqK ?_
   intro k1 s1 n1 hk1 hs1 he1
   refine Sq (RD hnt (.no :: []) [] [(28,pB (decide (((k1 : Nat) : Int) < ((p1.frosts.length : Nat) : Int))))] [] [] tv ?_)
   refine Sq (Cb (decide (((k1 : Nat) : Int) < ((p1.frosts.length : Nat) : Int))) ?_ ?_)
   ·intro h97
    have hlt1 : k1 < p1.frosts.length := by have := of_decide_eq_true h97; omega
    have hm := hs1 hlt1
    unfold Ve at hm
    refine Sk ?_
    refine Sq (Bk ?_)
    refine Sq (RD hnt (nn 6 []) [28] [(5,pI ((k1 : Nat) : Int)),(6,rr 1048)] [] [(1048,bx (pm (Bh (c21e3 p1 k1))))] (an (nn0 k1) (an (ltc hlt1) tv)) ?_)
    obtain ⟨g98,hm⟩ := go1 hm
    refine Sq ?_
    refine Jn (ι := Bool) (fun (y10 : Bool) => Aj [(2,rr 1016),(3,rr 1024),(25,.p (Du p1.frosts)),(26,pI ((p1.frosts.length : Nat) : Int)),(27,pI ((k1 : Nat) : Int)),(51,pB y10)] [(AbB p0),(AbI p1)]) (fun y10 => (Jz n1) y10 = some RES) ?_ ?_
    ·intro y10 hm
     unfold Jz at hm
     refine Ae hm ?_ ?_
     ·intro h102 hm
      refine Sq (RK hnt (.no :: []) [(4,pB false)] [] tv ?_)
      obtain rfl := sj hm
      exact DW.ret (Ag [] [] (pB false))
     ·intro h102 hm
      refine Sk ?_
      refine DW.done ?_
      show DW _ _ _ _ _
      refine RD hnt (nn 2 []) [51] [(27,pI (w64 (((k1 : Nat) : Int) + 1)))] [] [] tv ?_
      exact jD () ⟨hlt1,hm⟩ (Conv.tp [(27,pI (w64 (((k1 : Nat) : Int) + 1)))] [] (by kernel_rfl) (.cons rfl (.of_eq (congrArg pI (Bl hlt1 hc1))) .nil) .nil)
    ·rcases bt ((c21e3 p1 k1).group != (p0.tree.nodes.getD k1 Bj).id) with h99 | h99
     ·replace hm := Bd h99 hm
      refine RD hnt (nn 11 (sk 3 (pT :: .no :: sk 3 (pT :: [])))) [5,6] [(51,pB true)] [1048] [] (an (nn0 k1) (an (ltc g98) (an4 h99 (an4 tt tv)))) ?_
      exact jD true hm Conv.eqK
     ·replace hm := Bc h99 hm
      rcases bt (decide ((c21e3 p1 k1).changes < 0)) with h100 | h100
      ·replace hm := Bd h100 hm
       refine RD hnt (nn 14 (pF :: .no :: sk 3 (pT :: []))) [5,6] [(51,pB true)] [1048] [] (an (nn0 k1) (an (ltc g98) (an4 h99 (an4 h100 tv)))) ?_
       exact jD true hm Conv.eqK
      ·replace hm := Bc h100 hm
       refine RD hnt (nn 14 (pF :: nn 4 (pF :: []))) [5,6] [(51,pB (decide ((c21e3 p1 k1).changes > 1099511627776)))] [1048] [] (an (nn0 k1) (an (ltc g98) (an4 h99 (an4 h100 tv)))) ?_
       exact jD (decide ((c21e3 p1 k1).changes > 1099511627776)) hm Conv.eqK
   ·intro h97
    have hge1 : ¬ k1 < p1.frosts.length := by have := of_decide_eq_false h97; omega
    have hm := he1 hge1
    unfold Vd at hm
    refine DW.exit ?_
    refine Ao ?_
    refine Aw ?_
    refine Ak ?_
    show DW _ _ _ _ _
    refine Sq (Sq (RD hnt (nn 4 []) [25,26,27,28] [(54,.p (slI p1.stopped)),(55,pI ((p1.stopped.length : Nat) : Int)),(56,pI 0)] [] [] tv ?_))
    refine Bk ?_
    obtain ⟨hc10,hm⟩ := go1 hm
    refine DW.rangeO (fun (k10 : Nat) (s10 : Unit) => Aj [(2,rr 1016),(3,rr 1024),(54,.p (slI p1.stopped)),(55,pI ((p1.stopped.length : Nat) : Int)),(56,pI ((k10 : Nat) : Int))] [(AbB p0),(AbI p1)]) 0 hm Conv.eqK ?_
    intro k10 s10 n10 hk10 hs10 he10
    refine Sq (RD hnt (.no :: []) [] [(57,pB (decide (((k10 : Nat) : Int) < ((p1.stopped.length : Nat) : Int))))] [] [] tv ?_)
    refine Sq (Cb (decide (((k10 : Nat) : Int) < ((p1.stopped.length : Nat) : Int))) ?_ ?_)
    ·intro h141
     have hlt10 : k10 < p1.stopped.length := by have := of_decide_eq_true h141; omega
     have hm := hs10 hlt10
     unfold Th at hm
     refine Sk ?_
     refine Sq (Bk ?_)
     refine Sq (RD hnt (nn 5 []) [57] [(7,pI ((k10 : Nat) : Int)),(8,pI (p1.stopped.getD k10 0))] [] [] (an (nn0 k10) (an (ltc hlt10) tv)) ?_)
     refine Sq ?_
     refine Jn (ι := Bool) (fun (y13 : Bool) => Aj [(2,rr 1016),(3,rr 1024),(54,.p (slI p1.stopped)),(55,pI ((p1.stopped.length : Nat) : Int)),(56,pI ((k10 : Nat) : Int)),(79,pB y13)] [(AbB p0),(AbI p1)]) (fun y13 => (Hw n10) y13 = some RES) ?_ ?_
     ·intro y13 hm
      unfold Hw at hm
      refine Ae hm ?_ ?_
      ·intro h147 hm
       refine Sq (RK hnt (.no :: []) [(4,pB false)] [] tv ?_)
       obtain rfl := sj hm
       exact DW.ret (Ag [] [] (pB false))
      ·intro h147 hm
       refine Sk ?_
       refine DW.done ?_
       show DW _ _ _ _ _
       refine RD hnt (nn 2 []) [79] [(56,pI (w64 (((k10 : Nat) : Int) + 1)))] [] [] tv ?_
       exact jD () ⟨hlt10,hm⟩ (Conv.tp [(56,pI (w64 (((k10 : Nat) : Int) + 1)))] [] (by kernel_rfl) (.cons rfl (.of_eq (congrArg pI (Bl hlt10 hc10))) .nil) .nil)
     ·rcases bt (decide (((k10 : Nat) : Int) > 0)) with h142 | h142
      ·replace hm := Bd h142 hm
       obtain ⟨g143,hm⟩ := go1 hm
       rcases bt (decide ((p1.stopped.getD k10 0) ≤ (p1.stopped.getD (Int.toNat (w64 (((k10 : Nat) : Int) - 1))) 0))) with h144 | h144
       ·replace hm := Bd h144 hm
        refine RD hnt (nn 11 (pT :: .no :: sk 5 (pT :: []))) [7,8] [(79,pB true)] [] [] (an6 h142 (an g143.1 (an g143.2 (an3 h142 (an6 h144 tv))))) ?_
        exact jD true hm Conv.eqK
       ·replace hm := Bc h144 hm
        obtain ⟨r145,hr145,hm⟩ := bo hm
        refine RD hnt (nn 11 (pT :: nn 4 (o22 [] true r145 :: .no :: pF :: []))) [7,8] [(79,pB (!r145))] [] [] (an6 h142 (an g143.1 (an g143.2 (an3 h142 (an4 h144 (an (Rq p0 p1 (p1.stopped.getD k10 0) r145 hr145) (an2 h144 tv))))))) ?_
        exact jD (!r145) hm Conv.eqK
      ·replace hm := Bc h142 hm
       obtain ⟨r146,hr146,hm⟩ := bo hm
       refine RD hnt (nn 3 (sk 8 (pF :: nn 4 (o22 [] true r146 :: .no :: pF :: [])))) [7,8] [(79,pB (!r146))] [] [] (an3 h142 (an6 h142 (an4 ff (an (Rq p0 p1 (p1.stopped.getD k10 0) r146 hr146) (an2 ff tv))))) ?_
       exact jD (!r146) hm Conv.eqK
    ·intro h141
     have hge10 : ¬ k10 < p1.stopped.length := by have := of_decide_eq_false h141; omega
     have hm := he10 hge10
     unfold Uj at hm
     refine DW.exit ?_
     refine Ao ?_
     refine Aw ?_
     refine Ak ?_
     show DW _ _ _ _ _
     refine Sq (Sq (RD hnt (nn 4 []) [54,55,56,57] [(82,.p (Du p1.frosts)),(83,pI ((p1.frosts.length : Nat) : Int)),(84,pI 0)] [] [] tv ?_))
     refine Bk ?_
     obtain ⟨hc13,hm⟩ := go1 hm
     refine DW.rangeO (fun (k13 : Nat) (s13 : Unit) => Aj [(2,rr 1016),(3,rr 1024),(82,.p (Du p1.frosts)),(83,pI ((p1.frosts.length : Nat) : Int)),(84,pI ((k13 : Nat) : Int))] [(AbB p0),(AbI p1)]) Bi hm Conv.eqK ?_
     intro k13 s13 n13 hk13 hs13 he13
     refine Sq (RD hnt (.no :: []) [] [(85,pB (decide (((k13 : Nat) : Int) < ((p1.frosts.length : Nat) : Int))))] [] [] tv ?_)
     refine Sq (Cb (decide (((k13 : Nat) : Int) < ((p1.frosts.length : Nat) : Int))) ?_ ?_)
     ·intro h156
      have hlt13 : k13 < p1.frosts.length := by have := of_decide_eq_true h156; omega
      have hm := hs13 hlt13
      unfold Uf at hm
      refine Sk ?_
      refine Sq (Bk ?_)
      refine Sq (RD hnt (nn 4 []) [85] [(10,rr 1080)] [] [(1080,bx (pm (Bh (p1.frosts.getD k13 (default : Al)))))] (an (nn0 k13) (an (ltc hlt13) tv)) ?_)
      obtain ⟨r157,hr157,hm⟩ := bo hm
      refine Sq (RD hnt (nn 6 (o27 [] true r157 :: .no :: [])) [10] [(95,pB ((p1.frosts.getD k13 (default : Al)).frozen != r157))] [1080] [] (an (Aam p0 p1 (p1.frosts.getD k13 (default : Al)).group r157 hr157) tv) ?_)
      refine Ae hm ?_ ?_
      ·intro h158 hm
       refine Sq (RK hnt (.no :: []) [(4,pB false)] [] tv ?_)
       obtain rfl := sj hm
       exact DW.ret (Ag [] [] (pB false))
      ·intro h158 hm
       refine Sk ?_
       refine DW.done ?_
       show DW _ _ _ _ _
       refine RD hnt (nn 2 []) [95] [(84,pI (w64 (((k13 : Nat) : Int) + 1)))] [] [] tv ?_
       exact jD () ⟨hlt13,hm⟩ (Conv.tp [(84,pI (w64 (((k13 : Nat) : Int) + 1)))] [] (by kernel_rfl) (.cons rfl (.of_eq (congrArg pI (Bl hlt13 hc13))) .nil) .nil)
     ·intro h156
      have hge13 : ¬ k13 < p1.frosts.length := by have := of_decide_eq_false h156; omega
      have hm := he13 hge13
      unfold Aaa at hm
      refine DW.exit ?_
      refine Ao ?_
      refine Aw ?_
      refine Ak ?_
      show DW _ _ _ _ _
      refine Sq (RK hnt (.no :: []) [(4,pB true)] [] tv ?_)
      obtain rfl := sj hm
      exact DW.ret (Ag [] [] (pB true))
 ·rcases bt (!r1) with h2 | h2
  ·replace hm := Bd h2 hm
   refine RD hnt (.no :: o6 [] true r1 :: nn 2 (sk 8 (pT :: []))) [] [(23,pB true)] [] [] (an (Sx p0 r1 hr1) (an3 h2 (an6 h2 tv))) ?_
   exact jD true hm Conv.eqK
  ·replace hm := Bc h2 hm
   refine RD hnt (.no :: o6 [] true r1 :: nn 10 (pF :: [])) [] [(23,pB (((p1.frosts.length : Nat) : Int) != ((p0.tree.nodes.length : Nat) : Int)))] [] [] (an (Sx p0 r1 hr1) (an3 h2 (an6 h2 tv))) ?_
   exact jD (((p1.frosts.length : Nat) : Int) != ((p0.tree.nodes.length : Nat) : Int)) hm Conv.eqK
abbrev o21 (ks : List Nat) (b : Bool) (RES : Bool) (sm : List Nat := []) : Orc := .call 66 ks b (pB RES) [] [] sm

theorem AeM (p0 : Al) (p1 : Int) (RES : Bool) (hm : Yw p0 p1 = some RES) : Spec Tryz.prog 122 [.p (.agg (Bh p0)),rr 0] [.box [pI p1]] (pB RES) [.box [pI p1]] [] := by
 unfold Yw at hm
 refine SO Tryz.func122 rfl rfl [(0,.p (.agg (Bh p0))),(1,rr 0)] [(0,bx [pI p1])] ?_
 intro cx hnt
 refine Sq (RD hnt (nn 2 []) [0] [(2,rr 1016)] [] [(1016,bx (pm (Bh p0)))] tv ?_)
 refine Sq (RK hnt (nn 5 []) [(3,pB (p0.group == p1))] [(0,bx [pI p1])] tv ?_)
 obtain rfl := sj hm
 exact DW.ret (Ag [.box [pI p1]] [] (pB (p0.group == p1)))

theorem Om (p0 : List Al) (p1c0 : Int) (RES : Int) (hm : Gl p0 p1c0 = some RES) : Spec Tryz.prog 121 [.p (Du p0),.fn 122 [rr 0]] [.box [pI p1c0]] (pI RES) [.box [pI p1c0]] [] := by
 unfold Gl at hm
 refine SO Tryz.func121 rfl rfl [(0,.p (Du p0)),(1,.fn 122 [rr 0])] [(0,bx [pI p1c0])] ?_
 intro cx hnt
 refine Sq (RD hnt (.no :: []) [] [] [] [] tv ?_)
 refine Sq (Sq (RD hnt (nn 3 []) [] [(7,pI ((p0.length : Nat) : Int)),(8,pI 0)] [] [] tv ?_))
 refine Bk ?_
 obtain ⟨hc1,hm⟩ := go1 hm
 refine DW.rangeO (fun (k1 : Nat) (s1 : Unit) => Aj [(0,.p (Du p0)),(1,.fn 122 [rr 0]),(7,pI ((p0.length : Nat) : Int)),(8,pI ((k1 : Nat) : Int))] [(0,bx [pI p1c0])]) Bi hm Conv.eqK ?_
 intro k1 s1 n1 hk1 hs1 he1
 refine Sq (RD hnt (.no :: []) [] [(9,pB (decide (((k1 : Nat) : Int) < ((p0.length : Nat) : Int))))] [] [] tv ?_)
 refine Sq (Cb (decide (((k1 : Nat) : Int) < ((p0.length : Nat) : Int))) ?_ ?_)
 ·intro h9
  have hlt1 : k1 < p0.length := by have := of_decide_eq_true h9; omega
  have hm := hs1 hlt1
  unfold Jf at hm
  refine Sk ?_
  refine Sq (Bk ?_)
  refine Sq (RD hnt (nn 2 []) [9] [(5,pI ((k1 : Nat) : Int))] [] [] tv ?_)
  obtain ⟨r10,hr10,hm⟩ := bo hm
  refine Sq (RD hnt (nn 5 (.call 122 [0] true (pB r10) [.box [pI p1c0]] [] [] :: [])) [] [(16,pB r10)] [] [] (an (nn0 k1) (an (ltc hlt1) (an (AeM (p0.getD k1 (default : Al)) p1c0 r10 hr10) (an tv tv)))) ?_)
  refine Ae hm ?_ ?_
  ·intro h11 hm
   refine Sq (RK hnt (nn 2 []) [(4,pI ((k1 : Nat) : Int))] [(0,bx [pI p1c0])] tv ?_)
   obtain rfl := sj hm
   exact DW.ret (Ag [.box [pI p1c0]] [] (pI ((k1 : Nat) : Int)))
  ·intro h11 hm
   refine Sk ?_
   refine DW.done ?_
   show DW _ _ _ _ _
   refine RD hnt (nn 2 []) [5,16] [(8,pI (w64 (((k1 : Nat) : Int) + 1)))] [] [] tv ?_
   exact jD () ⟨hlt1,hm⟩ (Conv.tp [(8,pI (w64 (((k1 : Nat) : Int) + 1)))] [] (by kernel_rfl) (.cons rfl (.of_eq (congrArg pI (Bl hlt1 hc1))) .nil) .nil)
 ·intro h9
  have hge1 : ¬ k1 < p0.length := by have := of_decide_eq_false h9; omega
  have hm := he1 hge1
  unfold Jg at hm
  refine DW.exit ?_
  refine Ao ?_
  refine Aw ?_
  refine Ak ?_
  show DW _ _ _ _ _
  refine Sq (RK hnt (.no :: []) [(4,pI (-1))] [(0,bx [pI p1c0])] tv ?_)
  obtain rfl := sj hm
  exact DW.ret (Ag [.box [pI p1c0]] [] (pI (-1)))

theorem Yz (p0 : List Al) (RES : List Al) (hm : Gf p0 = some RES) : Spec Tryz.prog 183 [.p (.sl .nn 4 p0.length (elems Bh (default : Al) p0))] [] (ow 0 RES.length) [] [Am RES] := by
 unfold Gf at hm
 refine SO Tryz.func183 rfl rfl [(0,.p (.sl .nn 4 p0.length (elems Bh (default : Al) p0)))] [] ?_
 intro cx hnt
 refine Sq (RD hnt (.no :: []) [] [] [] [] tv ?_)
 refine Sq (Sq (RD hnt (nn 2 []) [] [(4,pB false)] [] [] tv ?_))
 refine condF ff ?_
 refine Sk ?_
 obtain ⟨g1,hm⟩ := go1 hm
 refine Sq (RN hnt (nn 4 []) [(2,ow 1040 p0.length)] [(1040,ob0 (Am p0))] [(2,ow 1040 (0 + p0.length))] [(1040,.row 4 (0 + p0.length) (Cw 0 (cut 4 []) (Lu p0)))] (an (by omega : (0 + p0.length) * 24 ≤ 140737488355328) tv) (by kernel_rfl) (.cons rfl (MLe.ownLen (enc := Bh) (d := Bi) (f := (Cw 0 (cut 4 []) (Lu p0))) (RowIs.cat RowIs.nil RowIs.elems)) .nil) (.cons rfl (BLe.typed (RowIs.cat RowIs.nil RowIs.elems)) .nil) ?_)
 obtain rfl := sj hm
 exact DW.ret (Ag [Am p0] [1040] (ow 0 p0.length))

theorem Xs (p0 : List Al) (RES : List Al) (hm : Nt p0 = some RES) : Spec Tryz.prog 183 [.p (.sl .nil 4 0 (elems Bh (default : Al) p0))] [] (ow 0 RES.length) [] [Am RES] := by
 unfold Nt at hm
 refine SO Tryz.func183 rfl rfl [(0,.p (.sl .nil 4 0 (elems Bh (default : Al) p0)))] [] ?_
 intro cx hnt
 refine Sq (RD hnt (.no :: []) [] [] [] [] tv ?_)
 refine Sq (Sq (RD hnt (nn 2 []) [] [(4,pB true)] [] [] tv ?_))
 refine condT tt ?_
 refine Sq (RK hnt (.no :: []) [(2,.p (.sl .nil 0 0 (fun _ => [])))] [] tv ?_)
 refine DW.cv [] [(2,ow 100000 0)] [] [(100000,ob0 (Am []))] (Conv.ads [(.s 2,100000,4,elems Bh Bi [])]) ?_
 obtain rfl := sj hm
 exact DW.ret (Ag [Am []] [100000] (ow 0 0))

theorem AaG (p0 : List Al) (RES : List Al) (hm : Gf p0 = some RES) : Spec Tryz.prog 183 [.p (Du p0)] [] (ow 0 RES.length) [] [Am RES] :=
  Spec.unk (fun h => Xs p0 RES (by have e : p0 = [] := List.eq_nil_of_length_eq_zero h; subst e; simpa [Gf,Nt] using hm)) (Yz p0 RES hm)
abbrev o36 (ks : List Nat) (b : Bool) (RES : List Al) (sm : List Nat := []) : Orc := .call 183 ks b (ow 0 RES.length) [] [Am RES] sm

theorem AaS (p0 : List Int) (RES : List Int) (hm : Hi p0 = some RES) : Spec Tryz.prog 117 [.p (.sl .nn 1 p0.length (elems Bn 0 p0))] [] (ow 0 RES.length) [] [roI RES] := by
 unfold Hi at hm
 refine SO Tryz.func117 rfl rfl [(0,.p (.sl .nn 1 p0.length (elems Bn 0 p0)))] [] ?_
 intro cx hnt
 refine Sq (RD hnt (.no :: []) [] [] [] [] tv ?_)
 refine Sq (Sq (RD hnt (nn 2 []) [] [(4,pB false)] [] [] tv ?_))
 refine condF ff ?_
 refine Sk ?_
 obtain ⟨g1,hm⟩ := go1 hm
 refine Sq (RN hnt (nn 4 []) [(2,ow 1040 p0.length)] [(1040,ob0 (roI p0))] [(2,ow 1040 (0 + p0.length))] [(1040,.row 1 (0 + p0.length) (Cw 0 (cut 1 []) (elI p0)))] (an (by omega : (0 + p0.length) * 8 ≤ 140737488355328) tv) (by kernel_rfl) (.cons rfl (MLe.ownLen (enc := Bn) (d := 0) (f := (Cw 0 (cut 1 []) (elI p0))) (RowIs.cat RowIs.nil RowIs.elems)) .nil) (.cons rfl (BLe.typed (RowIs.cat RowIs.nil RowIs.elems)) .nil) ?_)
 obtain rfl := sj hm
 exact DW.ret (Ag [roI p0] [1040] (ow 0 p0.length))

theorem Zv (p0 : List Int) (RES : List Int) (hm : Ph p0 = some RES) : Spec Tryz.prog 117 [.p (.sl .nil 1 0 (elems Bn 0 p0))] [] (ow 0 RES.length) [] [roI RES] := by
 unfold Ph at hm
 refine SO Tryz.func117 rfl rfl [(0,.p (.sl .nil 1 0 (elems Bn 0 p0)))] [] ?_
 intro cx hnt
 refine Sq (RD hnt (.no :: []) [] [] [] [] tv ?_)
 refine Sq (Sq (RD hnt (nn 2 []) [] [(4,pB true)] [] [] tv ?_))
 refine condT tt ?_
 refine Sq (RK hnt (.no :: []) [(2,.p (.sl .nil 0 0 (fun _ => [])))] [] tv ?_)
 refine DW.cv [] [(2,ow 100000 0)] [] [(100000,ob0 (roI []))] (Conv.ads [(.s 2,100000,1,elems Bn 0 [])]) ?_
 obtain rfl := sj hm
 exact DW.ret (Ag [roI []] [100000] (ow 0 0))

theorem AbQ (p0 : List Int) (RES : List Int) (hm : Hi p0 = some RES) : Spec Tryz.prog 117 [.p (slI p0)] [] (ow 0 RES.length) [] [roI RES] :=
  Spec.unk (fun h => Zv p0 RES (by have e : p0 = [] := List.eq_nil_of_length_eq_zero h; subst e; simpa [Hi,Ph] using hm)) (AaS p0 RES hm)
abbrev o37 (ks : List Nat) (b : Bool) (RES : List Int) (sm : List Nat := []) : Orc := .call 117 ks b (ow 0 RES.length) [] [roI RES] sm

theorem Aap (p0 : Aa) (p1 : Ac) (RES : freezer) (hm : Pa p0 p1 = some RES) : Spec Tryz.prog 123 [.p (.agg (Ab p0)),.p (.agg (Ai p1))] [] (rr 0) [] [.box [.p (Bb RES.h.tree.nodes),pI RES.h.tree.next,.p (Bg RES.h.tasks),pI RES.h.next,ow 1 RES.f.frosts.length,ow 2 RES.f.stopped.length],Am RES.f.frosts,roI RES.f.stopped] := by
 unfold Pa at hm
 refine SO Tryz.func123 rfl rfl [(0,.p (.agg (Ab p0))),(1,.p (.agg (Ai p1)))] [] ?_
 intro cx hnt
 refine Sq (RK hnt (nn 3 []) [(2,rr 1016),(3,rr 1024)] [(1016,bx (pm (Ab p0))),(1024,bx (pm (Ai p1)))] tv ?_)
 obtain ⟨r1,hr1,hm⟩ := bo hm
 obtain ⟨r2,hr2,hm⟩ := bo hm
 refine Sq (RK hnt (nn 3 (o36 [] true r1 :: nn 2 (o37 [] true r2 :: nn 4 []))) [(4,rr 1112)] [(1064,ob0 (Am r1)),(1088,ob0 (roI r2)),(1112,bx [.p (Bb p0.tree.nodes),pI p0.tree.next,.p (Bg p0.tasks),pI p0.next,ow 1064 r1.length,ow 1088 r2.length])] (an (AaG p1.frosts r1 hr1) (an (AbQ p1.stopped r2 hr2) tv)) ?_)
 obtain rfl := sj hm
 exact DW.ret (Ag [.box [.p (Bb p0.tree.nodes),pI p0.tree.next,.p (Bg p0.tasks),pI p0.next,ow 1 r1.length,ow 2 r2.length],Am r1,roI r2] [1112,1064,1088] (rr 0))
abbrev o35 (ks : List Nat) (b : Bool) (RES : freezer) (sm : List Nat := []) : Orc := .call 123 ks b (rr 0) [] [.box [.p (Bb RES.h.tree.nodes),pI RES.h.tree.next,.p (Bg RES.h.tasks),pI RES.h.next,ow 1 RES.f.frosts.length,ow 2 RES.f.stopped.length],Am RES.f.frosts,roI RES.f.stopped] sm

theorem Oq (p0 : Int) (p1 : freezer) (RES : Bool) (hm : Fs p0 p1 = some RES) : Spec Tryz.prog 185 [pI p0,rr 0] [.box [rr 1],.box [.p (Bb p1.h.tree.nodes),pI p1.h.tree.next,.p (Bg p1.h.tasks),pI p1.h.next,ow 2 p1.f.frosts.length,ow 3 p1.f.stopped.length],Am p1.f.frosts,roI p1.f.stopped] (pB RES) [.box [rr 1],.box [.p (Bb p1.h.tree.nodes),pI p1.h.tree.next,.p (Bg p1.h.tasks),pI p1.h.next,ow 2 p1.f.frosts.length,ow 3 p1.f.stopped.length],Am p1.f.frosts,roI p1.f.stopped] [] := by
 unfold Fs at hm
 refine SO Tryz.func185 rfl rfl [(0,pI p0),(1,rr 0)] [(0,bx [rr 1]),(1,bx [.p (Bb p1.h.tree.nodes),pI p1.h.tree.next,.p (Bg p1.h.tasks),pI p1.h.next,ow 2 p1.f.frosts.length,ow 3 p1.f.stopped.length]),(2,ob0 (Am p1.f.frosts)),(3,ob0 (roI p1.f.stopped))] ?_
 intro cx hnt
 refine Sq (RD hnt (.no :: []) [] [] [] [] tv ?_)
 obtain ⟨r1,hr1,hm⟩ := bo hm
 refine Sq (RD hnt (nn 9 (o22 [] true r1 :: nn 2 [])) [0,1] [(3,pB (!r1))] [] [] (an (Rq p1.h p1.f p0 r1 hr1) tv) ?_)
 obtain rfl := sj hm
 exact DW.ret (Ag [.box [rr 1],.box [.p (Bb p1.h.tree.nodes),pI p1.h.tree.next,.p (Bg p1.h.tasks),pI p1.h.next,ow 2 p1.f.frosts.length,ow 3 p1.f.stopped.length],Am p1.f.frosts,roI p1.f.stopped] [] (pB (!r1)))

abbrev c40e1 (p1c0 : freezer) (p0 : List Int) : Nat × Obj := (2,bx [.p (Bb p1c0.h.tree.nodes),pI p1c0.h.tree.next,.p (Bg p1c0.h.tasks),pI p1c0.h.next,ow 3 p1c0.f.frosts.length,ow 0 p0.length])
theorem Lp (p0 : List Int) (p1c0 : freezer) (RES : Int) (hm : Da p0 p1c0 = some RES) : Spec Tryz.prog 226 [ow 0 p0.length,.fn 185 [rr 1]] [roI p0,.box [rr 2],.box [.p (Bb p1c0.h.tree.nodes),pI p1c0.h.tree.next,.p (Bg p1c0.h.tasks),pI p1c0.h.next,ow 3 p1c0.f.frosts.length,ow 0 p0.length],Am p1c0.f.frosts] (pI RES) [roI p0,.box [rr 2],.box [.p (Bb p1c0.h.tree.nodes),pI p1c0.h.tree.next,.p (Bg p1c0.h.tasks),pI p1c0.h.next,ow 3 p1c0.f.frosts.length,ow 0 p0.length],Am p1c0.f.frosts] [] := by
 unfold Da at hm
 refine SO Tryz.func226 rfl rfl [(0,ow 0 p0.length),(1,.fn 185 [rr 1])] [(0,ob0 (roI p0)),(1,bx [rr 2]),(c40e1 p1c0 p0),(3,ob0 (Am p1c0.f.frosts))] ?_
 intro cx hnt
 refine Sq (RD hnt (.no :: []) [] [] [] [] tv ?_)
 refine Sq (Sq (RD hnt (nn 3 []) [] [(7,pI ((p0.length : Nat) : Int)),(8,pI 0)] [] [] tv ?_))
 refine Bk ?_
 obtain ⟨hc1,hm⟩ := go1 hm
 refine DW.rangeO (fun (k1 : Nat) (s1 : Unit) => Aj [(0,ow 0 p0.length),(1,.fn 185 [rr 1]),(7,pI ((p0.length : Nat) : Int)),(8,pI ((k1 : Nat) : Int))] [(0,ob0 (roI p0)),(1,bx [rr 2]),(c40e1 p1c0 p0),(3,ob0 (Am p1c0.f.frosts))]) 0 hm Conv.eqK ?_
 intro k1 s1 n1 hk1 hs1 he1
 refine Sq (RD hnt (.no :: []) [] [(9,pB (decide (((k1 : Nat) : Int) < ((p0.length : Nat) : Int))))] [] [] tv ?_)
 refine Sq (Cb (decide (((k1 : Nat) : Int) < ((p0.length : Nat) : Int))) ?_ ?_)
 ·intro h11
  have hlt1 : k1 < p0.length := by have := of_decide_eq_true h11; omega
  have hm := hs1 hlt1
  unfold Ei at hm
  refine Sk ?_
  refine Sq (Bk ?_)
  refine Sq (RD hnt (nn 2 []) [9] [(5,pI ((k1 : Nat) : Int))] [] [] tv ?_)
  obtain ⟨r12,hr12,hm⟩ := bo hm
  refine Sq (RD hnt (nn 5 (.call 185 [1,2,3,0] true (pB r12) [.box [rr 1],.box [.p (Bb p1c0.h.tree.nodes),pI p1c0.h.tree.next,.p (Bg p1c0.h.tasks),pI p1c0.h.next,ow 2 p1c0.f.frosts.length,ow 3 p0.length],Am p1c0.f.frosts,roI p0] [] [] :: [])) [] [(16,pB r12)] [] [] (an (nn0 k1) (an (ltc hlt1) (an (by omega : k1 < p0.length) (an (Oq (p0.getD k1 0) ({ h := p1c0.h,f := ({ frosts := p1c0.f.frosts,stopped := p0 } : Ac) } : freezer) r12 hr12) (an2 tv (an (⟨rfl,rfl⟩ : Body.same (Am p1c0.f.frosts) (Am p1c0.f.frosts)) (an (⟨rfl,rfl⟩ : Body.same (roI p0) (roI p0)) tv))))))) ?_)
  refine Ae hm ?_ ?_
  ·intro h13 hm
   refine Sq (RD hnt (nn 2 []) [0,1,5,7,8,16] [(4,pI ((k1 : Nat) : Int))] [] [] tv ?_)
   obtain rfl := sj hm
   exact DW.ret (Ag [roI p0,.box [rr 2],.box [.p (Bb p1c0.h.tree.nodes),pI p1c0.h.tree.next,.p (Bg p1c0.h.tasks),pI p1c0.h.next,ow 3 p1c0.f.frosts.length,ow 0 p0.length],Am p1c0.f.frosts] [] (pI ((k1 : Nat) : Int)))
  ·intro h13 hm
   refine Sk ?_
   refine DW.done ?_
   show DW _ _ _ _ _
   refine RD hnt (nn 2 []) [5,16] [(8,pI (w64 (((k1 : Nat) : Int) + 1)))] [] [] tv ?_
   exact jD () ⟨hlt1,hm⟩ (Conv.tp [(8,pI (w64 (((k1 : Nat) : Int) + 1)))] [] (by kernel_rfl) (.cons rfl (.of_eq (congrArg pI (Bl hlt1 hc1))) .nil) .nil)
 ·intro h11
  have hge1 : ¬ k1 < p0.length := by have := of_decide_eq_false h11; omega
  have hm := he1 hge1
  unfold Gs at hm
  refine DW.exit ?_
  refine Ao ?_
  refine Aw ?_
  refine Ak ?_
  show DW _ _ _ _ _
  refine Sq (RD hnt (.no :: []) [0,1,7,8,9] [(4,pI (-1))] [] [] tv ?_)
  obtain rfl := sj hm
  exact DW.ret (Ag [roI p0,.box [rr 2],.box [.p (Bb p1c0.h.tree.nodes),pI p1c0.h.tree.next,.p (Bg p1c0.h.tasks),pI p1c0.h.next,ow 3 p1c0.f.frosts.length,ow 0 p0.length],Am p1c0.f.frosts] [] (pI (-1)))

abbrev c39e1 (s1 : (List Int) × Int × Int) := (Rb s1.1 (Int.toNat s1.2.1) (Of s1.1.length (Int.toNat s1.2.1)) 0)
abbrev Ya (s1 : (List Int) × Int × Int) := (s1.1.getD (Int.toNat s1.2.2) 0)
abbrev c39e3 (p1c0 : freezer) (s1 : (List Int) × Int × Int) : Nat × Body := (2,.box [.p (Bb p1c0.h.tree.nodes),pI p1c0.h.tree.next,.p (Bg p1c0.h.tasks),pI p1c0.h.next,ow 3 p1c0.f.frosts.length,ow 0 s1.1.length])
abbrev c39e4 (p1c0 : freezer) : Nat × Obj := (3,ob0 (Am p1c0.f.frosts))
abbrev c39e5 (s1 : (List Int) × Int × Int) := (s1.1.set (Int.toNat s1.2.1) (Ya s1))
theorem Le (p0 : List Int) (p1c0 : freezer) (RES : Nat × (List Int) × freezer) (hm : Cg p0 p1c0 = some RES) : Spec Tryz.prog 184 [ow 0 p0.length,.fn 185 [rr 1]] [roI p0,.box [rr 2],.box [.p (Bb p1c0.h.tree.nodes),pI p1c0.h.tree.next,.p (Bg p1c0.h.tasks),pI p1c0.h.next,ow 3 p1c0.f.frosts.length,ow 0 p0.length],Am p1c0.f.frosts] (ow 0 RES.1) [roI RES.2.1,.box [rr 2],.box [.p (Bb RES.2.2.h.tree.nodes),pI RES.2.2.h.tree.next,.p (Bg RES.2.2.h.tasks),pI RES.2.2.h.next,ow 3 RES.2.2.f.frosts.length,ow 0 RES.2.1.length],Am RES.2.2.f.frosts] [] := by
 unfold Cg at hm
 refine SO Tryz.func184 rfl rfl [(0,ow 0 p0.length),(1,.fn 185 [rr 1])] [(0,ob0 (roI p0)),(1,bx [rr 2]),(2,bx [.p (Bb p1c0.h.tree.nodes),pI p1c0.h.tree.next,.p (Bg p1c0.h.tasks),pI p1c0.h.next,ow 3 p1c0.f.frosts.length,ow 0 p0.length]),(c39e4 p1c0)] ?_
 intro cx hnt
 refine Sq (RD hnt (.no :: []) [] [] [] [] tv ?_)
 obtain ⟨r1,hr1,hm⟩ := bo hm
 refine Sq (RD hnt (nn 2 (.call 226 [0,1,2,3] true (pI r1) [roI p0,.box [rr 2],.box [.p (Bb p1c0.h.tree.nodes),pI p1c0.h.tree.next,.p (Bg p1c0.h.tasks),pI p1c0.h.next,ow 3 p1c0.f.frosts.length,ow 0 p0.length],Am p1c0.f.frosts] [] [] :: .no :: [])) [] [(5,pI r1)] [] [] (an (Lp p0 ({ h := p1c0.h,f := ({ frosts := p1c0.f.frosts,stopped := p0 } : Ac) } : freezer) r1 hr1) (an (⟨rfl,rfl⟩ : Body.same (roI p0) (roI p0)) (an2 tv (an (⟨rfl,rfl⟩ : Body.same (Am p1c0.f.frosts) (Am p1c0.f.frosts)) tv)))) ?_)
 refine Sq (Sq (RD hnt (nn 2 []) [] [(12,pB (r1 == (-1)))] [] [] tv ?_))
 refine Ae hm ?_ ?_
 ·intro h2 hm
  refine Sq (RD hnt (nn 2 []) [0,1,5,12] [(4,ow 0 p0.length)] [] [] tv ?_)
  obtain rfl := sj hm
  exact DW.ret (Ag [roI p0,.box [rr 2],.box [.p (Bb p1c0.h.tree.nodes),pI p1c0.h.tree.next,.p (Bg p1c0.h.tasks),pI p1c0.h.next,ow 3 p1c0.f.frosts.length,ow 0 p0.length],Am p1c0.f.frosts] [] (ow 0 p0.length))
 ·intro h2 hm
  refine Sk ?_
  refine Sq (Sq (RD hnt (nn 3 []) [12] [(6,pI (w64 (r1 + 1)))] [] [] tv ?_))
  refine Bk ?_
  refine DW.whileO (fun (s1 : (List Int) × Int × Int) => Aj [(0,ow 0 s1.1.length),(1,.fn 185 [rr 1]),(5,pI s1.2.1),(6,pI s1.2.2)] [(0,ob0 (roI s1.1)),(1,bx [rr 2]),(2,bx [.p (Bb p1c0.h.tree.nodes),pI p1c0.h.tree.next,.p (Bg p1c0.h.tasks),pI p1c0.h.next,ow 3 p1c0.f.frosts.length,ow 0 s1.1.length]),(c39e4 p1c0)]) hm Conv.eqK ?_
  intro s1 n1 hm
  unfold Cr at hm
  refine Sq (Sq (RD hnt (nn 4 []) [] [(19,pB (decide (s1.2.2 < ((s1.1.length : Nat) : Int))))] [] [] tv ?_))
  refine Ae hm ?_ ?_
  ·intro h13 hm
   refine Sk ?_
   refine Sq ?_
   refine Jn (ι := (List Int) × Int) (fun (y2 : (List Int) × Int) => Aj [(0,ow 0 y2.1.length),(1,.fn 185 [rr 1]),(5,pI y2.2),(6,pI s1.2.2)] [(0,ob0 (roI y2.1)),(1,bx [rr 2]),(2,bx [.p (Bb p1c0.h.tree.nodes),pI p1c0.h.tree.next,.p (Bg p1c0.h.tasks),pI p1c0.h.next,ow 3 p1c0.f.frosts.length,ow 0 y2.1.length]),(c39e4 p1c0)]) (fun y2 => (Cd s1 n1) y2 = some RES) ?_ ?_
   ·intro y2 hm
    unfold Cd at hm
    refine RD hnt (nn 3 []) [] [(6,pI (w64 (s1.2.2 + 1)))] [] [] tv ?_
    exact jD (y2.1,y2.2,(w64 (s1.2.2 + 1))) hm Conv.eqK
   ·refine Bk ?_
    obtain ⟨g14,g15,hm⟩ := go2 hm
    refine Sq (RD hnt (nn 5 []) [19] [(7,pI (Ya s1))] [] [] (an g14.1 (an g14.2 (an g15 tv))) ?_)
    obtain ⟨r16,hr16,hm⟩ := bo hm
    refine Sq (RD hnt (nn 2 (.call 185 [1,2,3,0] true (pB r16) [.box [rr 1],.box [.p (Bb p1c0.h.tree.nodes),pI p1c0.h.tree.next,.p (Bg p1c0.h.tasks),pI p1c0.h.next,ow 2 p1c0.f.frosts.length,ow 3 s1.1.length],Am p1c0.f.frosts,roI s1.1] [] [] :: .no :: [])) [] [(29,pB (!r16))] [] [] (an (Oq (Ya s1) ({ h := p1c0.h,f := ({ frosts := p1c0.f.frosts,stopped := s1.1 } : Ac) } : freezer) r16 hr16) (an2 tv (an (⟨rfl,rfl⟩ : Body.same (Am p1c0.f.frosts) (Am p1c0.f.frosts)) (an (⟨rfl,rfl⟩ : Body.same (roI s1.1) (roI s1.1)) tv)))) ?_)
    refine Ae hm ?_ ?_
    ·intro h17 hm
     obtain ⟨g18,g19,hm⟩ := go2 hm
     refine Sq (RN hnt (nn 5 []) [(0,ow 0 (c39e5 s1).length),(1,.fn 185 [rr 1]),(5,pI s1.2.1),(6,pI s1.2.2)] [(0,ob0 (roI (c39e5 s1))),(1,bx [rr 2]),(2,bx [.p (Bb p1c0.h.tree.nodes),pI p1c0.h.tree.next,.p (Bg p1c0.h.tasks),pI p1c0.h.next,ow 3 p1c0.f.frosts.length,ow 0 (c39e5 s1).length]),(c39e4 p1c0)] [(0,ow 0 s1.1.length)] [(0,.row 1 s1.1.length (Cc (elI s1.1) (Int.toNat s1.2.1) [vi (Ya s1)])),(c39e3 p1c0 s1)] (an g18.1 (an g18.2 (an g19 tv))) (by kernel_rfl) (.cons rfl (MLe.ownLen (enc := Bn) (d := 0) (f := (Cc (elI s1.1) (Int.toNat s1.2.1) [vi (Ya s1)])) (RowIs.upd RowIs.elems (Ya s1) rfl)) .nil) (.cons rfl (BLe.typed (RowIs.upd RowIs.elems (Ya s1) rfl)) (.cons rfl (.box (.cons .rfl (.cons .rfl (.cons .rfl (.cons .rfl (.cons .rfl (.cons (MLe.ownLen (enc := Bn) (d := 0) (f := (Cc (elI s1.1) (Int.toNat s1.2.1) [vi (Ya s1)])) (RowIs.upd RowIs.elems (Ya s1) rfl)) .nil))))))) .nil)) ?_)
     refine RD hnt (nn 3 []) [] [(5,pI (w64 (s1.2.1 + 1)))] [] [] tv ?_
     exact bD ((c39e5 s1),(w64 (s1.2.1 + 1))) hm Conv.eqK
    ·intro h17 hm
     refine Sk ?_
     exact bD (s1.1,s1.2.1) hm Conv.t0
  ·intro h13 hm
   refine DW.exit ?_
   refine Ao ?_
   refine Aw ?_
   refine Ak ?_
   show DW _ _ _ _ _
   obtain ⟨g20,g21,hm⟩ := go2 hm
   refine Sq (RN hnt (nn 4 []) [(0,ow 0 (c39e1 s1).length),(5,pI s1.2.1)] [(0,ob0 (roI (c39e1 s1))),(1,bx [rr 2]),(2,bx [.p (Bb p1c0.h.tree.nodes),pI p1c0.h.tree.next,.p (Bg p1c0.h.tasks),pI p1c0.h.next,ow 3 p1c0.f.frosts.length,ow 0 (c39e1 s1).length]),(c39e4 p1c0)] [(0,ow 0 s1.1.length)] [(0,.row 1 s1.1.length (Mq (elI s1.1) (Int.toNat s1.2.1) (Of s1.1.length (Int.toNat s1.2.1)) (fun _ => [vi 0]))),(c39e3 p1c0 s1)] (an (by omega : (0 : Int) ≤ s1.2.1) (an (by omega : s1.2.1 ≤ ((s1.1.length : Nat) : Int)) (an (by omega : ((s1.1.length : Nat) : Int) ≤ ((s1.1.length : Nat) : Int)) (an g21 tv)))) (by kernel_rfl) (.cons rfl (MLe.ownLen (enc := Bn) (d := 0) (f := (Mq (elI s1.1) (Int.toNat s1.2.1) (Of s1.1.length (Int.toNat s1.2.1)) (fun _ => [vi 0]))) (RowIs.fill RowIs.elems 0 rfl (by first | exact g21 | omega))) .nil) (.cons rfl (BLe.typed (RowIs.fill RowIs.elems 0 rfl (by first | exact g21 | omega))) (.cons rfl (.box (.cons .rfl (.cons .rfl (.cons .rfl (.cons .rfl (.cons .rfl (.cons (MLe.ownLen (enc := Bn) (d := 0) (f := (Mq (elI s1.1) (Int.toNat s1.2.1) (Of s1.1.length (Int.toNat s1.2.1)) (fun _ => [vi 0]))) (RowIs.fill RowIs.elems 0 rfl (by first | exact g21 | omega))) .nil))))))) .nil)) ?_)
   obtain ⟨g22,hm⟩ := go1 hm
   refine Sq (RD hnt (nn 4 []) [0,5] [(4,ow 0 (Int.toNat s1.2.1))] [] [] (an (by omega : (0 : Int) ≤ 0) (an (by omega : (0 : Int) ≤ s1.2.1) (an (by omega : s1.2.1 ≤ (((Rb s1.1 (Int.toNat s1.2.1) (Of s1.1.length (Int.toNat s1.2.1)) 0).length : Nat) : Int)) tv))) ?_)
   obtain rfl := sj hm
   exact DW.ret (Ag [roI (c39e1 s1),.box [rr 2],.box [.p (Bb p1c0.h.tree.nodes),pI p1c0.h.tree.next,.p (Bg p1c0.h.tasks),pI p1c0.h.next,ow 3 p1c0.f.frosts.length,ow 0 (c39e1 s1).length],Am p1c0.f.frosts] [] (ow 0 (Int.toNat s1.2.1)))
abbrev o39 (ks : List Nat) (b : Bool) (RES : Nat × (List Int) × freezer) (sm : List Nat := []) : Orc := .call 184 ks b (ow 0 RES.1) [roI RES.2.1,.box [rr 2],.box [.p (Bb RES.2.2.h.tree.nodes),pI RES.2.2.h.tree.next,.p (Bg RES.2.2.h.tasks),pI RES.2.2.h.next,ow 3 RES.2.2.f.frosts.length,ow 0 RES.2.1.length],Am RES.2.2.f.frosts] [] sm
end Go.Dm

